/-
  NARROWER THAN 'FOR EVERY INPUT', by the rows' own cells (each row's printed sentence says how): TopTypesTrue: laid · CountermodelChecks: laid · CountermodelShrinks: laid · CountermodelLeast: laid · CountermodelNumbers: laid · CountermodelSmall: laid · CountermodelFewest: laid · CountermodelCounters: laid · CountermodelDecides: laid.
  DERIVED. THE GIVEN ROWS OF THIS SEAT. 9 by the template 'for every input the law returns true; each argument reads behind the call as it read before'; 0 by the template 'total and deterministic' (their statements: YtkmclcmnoicagaaGreatDoorTotals.lean).
  GIVEN WITH THE SEED: the statements are not yours to turn. If you find one false, say at which input.
  Laid BY PROGRAM, IN A SANDBOX (cutbox-rows.mjs): the forced cells as the released guide's own fill.sh prints them over the translation a204f1f111b1c081… (all of the seat's roots in one cut). By AI agents, Wed Nov 11 2026. No macro, syntax, notation, axiom, sorry.
-/
import Derived.Test.YtkmclcmnoicagaaGreatDoorChecked
import GoSem.Claim
import GoSem.ClaimJoined
import GoSem.ClaimMapViews
import Derived.JoinedTies
import Derived.KernelRfl
namespace Go.Proofs.YtkmclcmnoicagaaGreatDoor
/- THE CELL 'sum', in the pinned program and in every row, IS THE sha256 OF THE DUMP (.gsa) THAT YtkmclcmnoicagaaGreatDoorProg.lean LOADS. Nothing in Lean hashes anything: it is a label: what it is worth is what the hold of that sum in a sandbox is worth. -/
noncomputable def Tryz.pinned : Pinned := { name := "ytkmclcmnoicagaagreatdoor", sum := "a204f1f111b1c081949e32da9f8b7cb421a6e0f57a743ba53126078c04c1776d", checked := Tryz.checked }
namespace Rows
def none {H : Type} : Left H := { results := [], args := [] }

/- WHAT THE LISTED PACKAGE-LEVEL VARIABLES READ AS WHEN THE CALL BEGINS. Each datum BY PROGRAM (the guide's laid-datum.mjs) off the statement by which the dump's own 'gosem.cut.vars' lays the variable. In a bare row this is a premise. The card (YtkmclcmnoicagaaGreatDoorCards.lean) ties it to the program's text. -/
def laid_math_bits_deBruijn64tab {H : Type} : DataW H := .agg [.lit (.int .u8 0), .lit (.int .u8 1), .lit (.int .u8 56), .lit (.int .u8 2), .lit (.int .u8 57), .lit (.int .u8 49), .lit (.int .u8 28), .lit (.int .u8 3), .lit (.int .u8 61), .lit (.int .u8 58), .lit (.int .u8 42), .lit (.int .u8 50), .lit (.int .u8 38), .lit (.int .u8 29), .lit (.int .u8 17), .lit (.int .u8 4), .lit (.int .u8 62), .lit (.int .u8 47), .lit (.int .u8 59), .lit (.int .u8 36), .lit (.int .u8 45), .lit (.int .u8 43), .lit (.int .u8 51), .lit (.int .u8 22), .lit (.int .u8 53), .lit (.int .u8 39), .lit (.int .u8 33), .lit (.int .u8 30), .lit (.int .u8 24), .lit (.int .u8 18), .lit (.int .u8 12), .lit (.int .u8 5), .lit (.int .u8 63), .lit (.int .u8 55), .lit (.int .u8 48), .lit (.int .u8 27), .lit (.int .u8 60), .lit (.int .u8 41), .lit (.int .u8 37), .lit (.int .u8 16), .lit (.int .u8 46), .lit (.int .u8 35), .lit (.int .u8 44), .lit (.int .u8 21), .lit (.int .u8 52), .lit (.int .u8 32), .lit (.int .u8 23), .lit (.int .u8 11), .lit (.int .u8 54), .lit (.int .u8 26), .lit (.int .u8 40), .lit (.int .u8 15), .lit (.int .u8 34), .lit (.int .u8 20), .lit (.int .u8 31), .lit (.int .u8 10), .lit (.int .u8 25), .lit (.int .u8 14), .lit (.int .u8 19), .lit (.int .u8 9), .lit (.int .u8 13), .lit (.int .u8 8), .lit (.int .u8 7), .lit (.int .u8 6)]

/-- 'wittingtop.TopTypesTrue': WHATEVER THE INPUT: true; the input reads as it did. -/
def topTypesTrueSpec : ChangeSpec := { name := "topTypesTrue", fn := fun _ => fun
  | [d1, d2, d3] => { results := [.lit (.bool true)], args := [d1, d2, d3] }
  | _ => none }
def topTypesTrueRow : OpenClaim := { program := "ytkmclcmnoicagaagreatdoor", sum := "a204f1f111b1c081949e32da9f8b7cb421a6e0f57a743ba53126078c04c1776d", func := "witting/wittingtop.TopTypesTrue", spec := "topTypesTrue", unfollowed := true, recurses := true, named := ["math/bits.deBruijn64tab"], plainKeys := false, apart := false, laid := [("math/bits.deBruijn64tab", laid_math_bits_deBruijn64tab)] }
def TopTypesTrueSaid : Prop := topTypesTrueRow.holds Tryz.pinned (OpenSpec.ofChange topTypesTrueSpec)

/-- ITS FALSE NEIGHBOUR: 'it returns false'. Refute it at one input. -/
def topTypesTrueWrong : ChangeSpec := { name := "topTypesTrue", fn := fun _ => fun
  | [d1, d2, d3] => { results := [.lit (.bool false)], args := [d1, d2, d3] }
  | _ => none }
def TopTypesTrueWrongFalsely : Prop := topTypesTrueRow.holds Tryz.pinned (OpenSpec.ofChange topTypesTrueWrong)

/-- 'wittinglaw48.CountermodelChecks': WHATEVER THE INPUT: true; the input reads as it did. -/
def countermodelChecksSpec : ChangeSpec := { name := "countermodelChecks", fn := fun _ => fun
  | [d1, d2] => { results := [.lit (.bool true)], args := [d1, d2] }
  | _ => none }
def countermodelChecksRow : OpenClaim := { program := "ytkmclcmnoicagaagreatdoor", sum := "a204f1f111b1c081949e32da9f8b7cb421a6e0f57a743ba53126078c04c1776d", func := "witting/wittinglaw48.CountermodelChecks", spec := "countermodelChecks", unfollowed := true, recurses := true, named := ["math/bits.deBruijn64tab"], plainKeys := false, apart := false, laid := [("math/bits.deBruijn64tab", laid_math_bits_deBruijn64tab)] }
def CountermodelChecksSaid : Prop := countermodelChecksRow.holds Tryz.pinned (OpenSpec.ofChange countermodelChecksSpec)

/-- ITS FALSE NEIGHBOUR: 'it returns false'. Refute it at one input. -/
def countermodelChecksWrong : ChangeSpec := { name := "countermodelChecks", fn := fun _ => fun
  | [d1, d2] => { results := [.lit (.bool false)], args := [d1, d2] }
  | _ => none }
def CountermodelChecksWrongFalsely : Prop := countermodelChecksRow.holds Tryz.pinned (OpenSpec.ofChange countermodelChecksWrong)

/-- 'wittinglaw48.CountermodelShrinks': WHATEVER THE INPUT: true; the input reads as it did. -/
def countermodelShrinksSpec : ChangeSpec := { name := "countermodelShrinks", fn := fun _ => fun
  | [d1, d2] => { results := [.lit (.bool true)], args := [d1, d2] }
  | _ => none }
def countermodelShrinksRow : OpenClaim := { program := "ytkmclcmnoicagaagreatdoor", sum := "a204f1f111b1c081949e32da9f8b7cb421a6e0f57a743ba53126078c04c1776d", func := "witting/wittinglaw48.CountermodelShrinks", spec := "countermodelShrinks", unfollowed := true, recurses := true, named := ["math/bits.deBruijn64tab"], plainKeys := false, apart := false, laid := [("math/bits.deBruijn64tab", laid_math_bits_deBruijn64tab)] }
def CountermodelShrinksSaid : Prop := countermodelShrinksRow.holds Tryz.pinned (OpenSpec.ofChange countermodelShrinksSpec)

/-- ITS FALSE NEIGHBOUR: 'it returns false'. Refute it at one input. -/
def countermodelShrinksWrong : ChangeSpec := { name := "countermodelShrinks", fn := fun _ => fun
  | [d1, d2] => { results := [.lit (.bool false)], args := [d1, d2] }
  | _ => none }
def CountermodelShrinksWrongFalsely : Prop := countermodelShrinksRow.holds Tryz.pinned (OpenSpec.ofChange countermodelShrinksWrong)

/-- 'wittinglaw48.CountermodelLeast': WHATEVER THE INPUT: true; the input reads as it did. -/
def countermodelLeastSpec : ChangeSpec := { name := "countermodelLeast", fn := fun _ => fun
  | [d1, d2, d3] => { results := [.lit (.bool true)], args := [d1, d2, d3] }
  | _ => none }
def countermodelLeastRow : OpenClaim := { program := "ytkmclcmnoicagaagreatdoor", sum := "a204f1f111b1c081949e32da9f8b7cb421a6e0f57a743ba53126078c04c1776d", func := "witting/wittinglaw48.CountermodelLeast", spec := "countermodelLeast", unfollowed := true, recurses := true, named := ["math/bits.deBruijn64tab"], plainKeys := false, apart := false, laid := [("math/bits.deBruijn64tab", laid_math_bits_deBruijn64tab)] }
def CountermodelLeastSaid : Prop := countermodelLeastRow.holds Tryz.pinned (OpenSpec.ofChange countermodelLeastSpec)

/-- ITS FALSE NEIGHBOUR: 'it returns false'. Refute it at one input. -/
def countermodelLeastWrong : ChangeSpec := { name := "countermodelLeast", fn := fun _ => fun
  | [d1, d2, d3] => { results := [.lit (.bool false)], args := [d1, d2, d3] }
  | _ => none }
def CountermodelLeastWrongFalsely : Prop := countermodelLeastRow.holds Tryz.pinned (OpenSpec.ofChange countermodelLeastWrong)

/-- 'wittinglaw48.CountermodelNumbers': WHATEVER THE INPUT: true; the input reads as it did. -/
def countermodelNumbersSpec : ChangeSpec := { name := "countermodelNumbers", fn := fun _ => fun
  | [d1, d2, d3] => { results := [.lit (.bool true)], args := [d1, d2, d3] }
  | _ => none }
def countermodelNumbersRow : OpenClaim := { program := "ytkmclcmnoicagaagreatdoor", sum := "a204f1f111b1c081949e32da9f8b7cb421a6e0f57a743ba53126078c04c1776d", func := "witting/wittinglaw48.CountermodelNumbers", spec := "countermodelNumbers", unfollowed := true, recurses := true, named := ["math/bits.deBruijn64tab"], plainKeys := false, apart := false, laid := [("math/bits.deBruijn64tab", laid_math_bits_deBruijn64tab)] }
def CountermodelNumbersSaid : Prop := countermodelNumbersRow.holds Tryz.pinned (OpenSpec.ofChange countermodelNumbersSpec)

/-- ITS FALSE NEIGHBOUR: 'it returns false'. Refute it at one input. -/
def countermodelNumbersWrong : ChangeSpec := { name := "countermodelNumbers", fn := fun _ => fun
  | [d1, d2, d3] => { results := [.lit (.bool false)], args := [d1, d2, d3] }
  | _ => none }
def CountermodelNumbersWrongFalsely : Prop := countermodelNumbersRow.holds Tryz.pinned (OpenSpec.ofChange countermodelNumbersWrong)

/-- 'wittinglaw48.CountermodelSmall': WHATEVER THE INPUT: true; the input reads as it did. -/
def countermodelSmallSpec : ChangeSpec := { name := "countermodelSmall", fn := fun _ => fun
  | [d1, d2] => { results := [.lit (.bool true)], args := [d1, d2] }
  | _ => none }
def countermodelSmallRow : OpenClaim := { program := "ytkmclcmnoicagaagreatdoor", sum := "a204f1f111b1c081949e32da9f8b7cb421a6e0f57a743ba53126078c04c1776d", func := "witting/wittinglaw48.CountermodelSmall", spec := "countermodelSmall", unfollowed := true, recurses := true, named := ["math/bits.deBruijn64tab"], plainKeys := false, apart := false, laid := [("math/bits.deBruijn64tab", laid_math_bits_deBruijn64tab)] }
def CountermodelSmallSaid : Prop := countermodelSmallRow.holds Tryz.pinned (OpenSpec.ofChange countermodelSmallSpec)

/-- ITS FALSE NEIGHBOUR: 'it returns false'. Refute it at one input. -/
def countermodelSmallWrong : ChangeSpec := { name := "countermodelSmall", fn := fun _ => fun
  | [d1, d2] => { results := [.lit (.bool false)], args := [d1, d2] }
  | _ => none }
def CountermodelSmallWrongFalsely : Prop := countermodelSmallRow.holds Tryz.pinned (OpenSpec.ofChange countermodelSmallWrong)

/-- 'wittinglaw48.CountermodelFewest': WHATEVER THE INPUT: true; the input reads as it did. -/
def countermodelFewestSpec : ChangeSpec := { name := "countermodelFewest", fn := fun _ => fun
  | [d1, d2, d3] => { results := [.lit (.bool true)], args := [d1, d2, d3] }
  | _ => none }
def countermodelFewestRow : OpenClaim := { program := "ytkmclcmnoicagaagreatdoor", sum := "a204f1f111b1c081949e32da9f8b7cb421a6e0f57a743ba53126078c04c1776d", func := "witting/wittinglaw48.CountermodelFewest", spec := "countermodelFewest", unfollowed := true, recurses := true, named := ["math/bits.deBruijn64tab"], plainKeys := false, apart := false, laid := [("math/bits.deBruijn64tab", laid_math_bits_deBruijn64tab)] }
def CountermodelFewestSaid : Prop := countermodelFewestRow.holds Tryz.pinned (OpenSpec.ofChange countermodelFewestSpec)

/-- ITS FALSE NEIGHBOUR: 'it returns false'. Refute it at one input. -/
def countermodelFewestWrong : ChangeSpec := { name := "countermodelFewest", fn := fun _ => fun
  | [d1, d2, d3] => { results := [.lit (.bool false)], args := [d1, d2, d3] }
  | _ => none }
def CountermodelFewestWrongFalsely : Prop := countermodelFewestRow.holds Tryz.pinned (OpenSpec.ofChange countermodelFewestWrong)

/-- 'wittinglaw48.CountermodelCounters': WHATEVER THE INPUT: true; the input reads as it did. -/
def countermodelCountersSpec : ChangeSpec := { name := "countermodelCounters", fn := fun _ => fun
  | [d1, d2, d3] => { results := [.lit (.bool true)], args := [d1, d2, d3] }
  | _ => none }
def countermodelCountersRow : OpenClaim := { program := "ytkmclcmnoicagaagreatdoor", sum := "a204f1f111b1c081949e32da9f8b7cb421a6e0f57a743ba53126078c04c1776d", func := "witting/wittinglaw48.CountermodelCounters", spec := "countermodelCounters", unfollowed := true, recurses := true, named := ["math/bits.deBruijn64tab"], plainKeys := false, apart := false, laid := [("math/bits.deBruijn64tab", laid_math_bits_deBruijn64tab)] }
def CountermodelCountersSaid : Prop := countermodelCountersRow.holds Tryz.pinned (OpenSpec.ofChange countermodelCountersSpec)

/-- ITS FALSE NEIGHBOUR: 'it returns false'. Refute it at one input. -/
def countermodelCountersWrong : ChangeSpec := { name := "countermodelCounters", fn := fun _ => fun
  | [d1, d2, d3] => { results := [.lit (.bool false)], args := [d1, d2, d3] }
  | _ => none }
def CountermodelCountersWrongFalsely : Prop := countermodelCountersRow.holds Tryz.pinned (OpenSpec.ofChange countermodelCountersWrong)

/-- 'wittinglaw48.CountermodelDecides': WHATEVER THE INPUT: true; the input reads as it did. -/
def countermodelDecidesSpec : ChangeSpec := { name := "countermodelDecides", fn := fun _ => fun
  | [d1, d2] => { results := [.lit (.bool true)], args := [d1, d2] }
  | _ => none }
def countermodelDecidesRow : OpenClaim := { program := "ytkmclcmnoicagaagreatdoor", sum := "a204f1f111b1c081949e32da9f8b7cb421a6e0f57a743ba53126078c04c1776d", func := "witting/wittinglaw48.CountermodelDecides", spec := "countermodelDecides", unfollowed := true, recurses := true, named := ["math/bits.deBruijn64tab"], plainKeys := false, apart := false, laid := [("math/bits.deBruijn64tab", laid_math_bits_deBruijn64tab)] }
def CountermodelDecidesSaid : Prop := countermodelDecidesRow.holds Tryz.pinned (OpenSpec.ofChange countermodelDecidesSpec)

/-- ITS FALSE NEIGHBOUR: 'it returns false'. Refute it at one input. -/
def countermodelDecidesWrong : ChangeSpec := { name := "countermodelDecides", fn := fun _ => fun
  | [d1, d2] => { results := [.lit (.bool false)], args := [d1, d2] }
  | _ => none }
def CountermodelDecidesWrongFalsely : Prop := countermodelDecidesRow.holds Tryz.pinned (OpenSpec.ofChange countermodelDecidesWrong)

/- THE SECOND FORM. 'bulk': how many values and letters a reading holds, each counted each time it is reached (what is shared counts as often as it is met; a slice's spare places count too). A statement '..UptoSaid' is the law's where the arguments, and the package variables that the reading takes, are together of bulk at most 1048576: NARROWER than '..Said'. Prove '..Said' where nothing that the law and all that it calls make is longer than what came in: it says more and counts as full. Else prove '..UptoSaid'. A law counts once. -/
mutual
def uptoBulk {H : Type} : DataW H → Nat
  | .lit (.string bytes) => bytes.length + 1
  | .lit _ => 1
  | .nil => 1
  | .ptr d => uptoBulk d + 1
  | .slice elems spare => uptoBulkAll elems + uptoBulkAll spare + 1
  | .agg parts => uptoBulkAll parts + 1
  | .iface _ d => uptoBulk d + 1
  | .map entries => uptoBulkEntries entries + 1
  | .held _ => 1
def uptoBulkAll {H : Type} : List (DataW H) → Nat
  | [] => 0
  | d :: r => uptoBulk d + uptoBulkAll r
def uptoBulkEntries {H : Type} : List (Lit × DataW H) → Nat
  | [] => 0
  | x :: r => uptoBulkEntry x + uptoBulkEntries r
def uptoBulkEntry {H : Type} : Lit × DataW H → Nat
  | (.string bytes, d) => bytes.length + uptoBulk d + 1
  | (_, d) => uptoBulk d + 1
 end
def uptoSmall : (H : Type) → List (DataW H) → Bool := fun _ ds => decide (uptoBulkAll ds ≤ 1048576)
def OpenSpec.upto (s : _root_.Go.ChangeSpec) : _root_.Go.OpenSpec := { _root_.Go.OpenSpec.ofChange s with cond := some uptoSmall }

/-- 'wittingtop.TopTypesTrue', WHERE WHAT IT READS IS OF BULK AT MOST 1048576: true; the input reads as it did. -/
def topTypesTrueUptoRow : OpenClaim := { program := "ytkmclcmnoicagaagreatdoor", sum := "a204f1f111b1c081949e32da9f8b7cb421a6e0f57a743ba53126078c04c1776d", func := "witting/wittingtop.TopTypesTrue", spec := "topTypesTrue", unfollowed := true, recurses := true, named := ["math/bits.deBruijn64tab"], plainKeys := false, apart := false, laid := [("math/bits.deBruijn64tab", laid_math_bits_deBruijn64tab)], narrowed := true }
def TopTypesTrueUptoSaid : Prop := topTypesTrueUptoRow.holds Tryz.pinned (OpenSpec.upto topTypesTrueSpec)

/-- 'wittinglaw48.CountermodelChecks', WHERE WHAT IT READS IS OF BULK AT MOST 1048576: true; the input reads as it did. -/
def countermodelChecksUptoRow : OpenClaim := { program := "ytkmclcmnoicagaagreatdoor", sum := "a204f1f111b1c081949e32da9f8b7cb421a6e0f57a743ba53126078c04c1776d", func := "witting/wittinglaw48.CountermodelChecks", spec := "countermodelChecks", unfollowed := true, recurses := true, named := ["math/bits.deBruijn64tab"], plainKeys := false, apart := false, laid := [("math/bits.deBruijn64tab", laid_math_bits_deBruijn64tab)], narrowed := true }
def CountermodelChecksUptoSaid : Prop := countermodelChecksUptoRow.holds Tryz.pinned (OpenSpec.upto countermodelChecksSpec)

/-- 'wittinglaw48.CountermodelShrinks', WHERE WHAT IT READS IS OF BULK AT MOST 1048576: true; the input reads as it did. -/
def countermodelShrinksUptoRow : OpenClaim := { program := "ytkmclcmnoicagaagreatdoor", sum := "a204f1f111b1c081949e32da9f8b7cb421a6e0f57a743ba53126078c04c1776d", func := "witting/wittinglaw48.CountermodelShrinks", spec := "countermodelShrinks", unfollowed := true, recurses := true, named := ["math/bits.deBruijn64tab"], plainKeys := false, apart := false, laid := [("math/bits.deBruijn64tab", laid_math_bits_deBruijn64tab)], narrowed := true }
def CountermodelShrinksUptoSaid : Prop := countermodelShrinksUptoRow.holds Tryz.pinned (OpenSpec.upto countermodelShrinksSpec)

/-- 'wittinglaw48.CountermodelLeast', WHERE WHAT IT READS IS OF BULK AT MOST 1048576: true; the input reads as it did. -/
def countermodelLeastUptoRow : OpenClaim := { program := "ytkmclcmnoicagaagreatdoor", sum := "a204f1f111b1c081949e32da9f8b7cb421a6e0f57a743ba53126078c04c1776d", func := "witting/wittinglaw48.CountermodelLeast", spec := "countermodelLeast", unfollowed := true, recurses := true, named := ["math/bits.deBruijn64tab"], plainKeys := false, apart := false, laid := [("math/bits.deBruijn64tab", laid_math_bits_deBruijn64tab)], narrowed := true }
def CountermodelLeastUptoSaid : Prop := countermodelLeastUptoRow.holds Tryz.pinned (OpenSpec.upto countermodelLeastSpec)

/-- 'wittinglaw48.CountermodelNumbers', WHERE WHAT IT READS IS OF BULK AT MOST 1048576: true; the input reads as it did. -/
def countermodelNumbersUptoRow : OpenClaim := { program := "ytkmclcmnoicagaagreatdoor", sum := "a204f1f111b1c081949e32da9f8b7cb421a6e0f57a743ba53126078c04c1776d", func := "witting/wittinglaw48.CountermodelNumbers", spec := "countermodelNumbers", unfollowed := true, recurses := true, named := ["math/bits.deBruijn64tab"], plainKeys := false, apart := false, laid := [("math/bits.deBruijn64tab", laid_math_bits_deBruijn64tab)], narrowed := true }
def CountermodelNumbersUptoSaid : Prop := countermodelNumbersUptoRow.holds Tryz.pinned (OpenSpec.upto countermodelNumbersSpec)

/-- 'wittinglaw48.CountermodelSmall', WHERE WHAT IT READS IS OF BULK AT MOST 1048576: true; the input reads as it did. -/
def countermodelSmallUptoRow : OpenClaim := { program := "ytkmclcmnoicagaagreatdoor", sum := "a204f1f111b1c081949e32da9f8b7cb421a6e0f57a743ba53126078c04c1776d", func := "witting/wittinglaw48.CountermodelSmall", spec := "countermodelSmall", unfollowed := true, recurses := true, named := ["math/bits.deBruijn64tab"], plainKeys := false, apart := false, laid := [("math/bits.deBruijn64tab", laid_math_bits_deBruijn64tab)], narrowed := true }
def CountermodelSmallUptoSaid : Prop := countermodelSmallUptoRow.holds Tryz.pinned (OpenSpec.upto countermodelSmallSpec)

/-- 'wittinglaw48.CountermodelFewest', WHERE WHAT IT READS IS OF BULK AT MOST 1048576: true; the input reads as it did. -/
def countermodelFewestUptoRow : OpenClaim := { program := "ytkmclcmnoicagaagreatdoor", sum := "a204f1f111b1c081949e32da9f8b7cb421a6e0f57a743ba53126078c04c1776d", func := "witting/wittinglaw48.CountermodelFewest", spec := "countermodelFewest", unfollowed := true, recurses := true, named := ["math/bits.deBruijn64tab"], plainKeys := false, apart := false, laid := [("math/bits.deBruijn64tab", laid_math_bits_deBruijn64tab)], narrowed := true }
def CountermodelFewestUptoSaid : Prop := countermodelFewestUptoRow.holds Tryz.pinned (OpenSpec.upto countermodelFewestSpec)

/-- 'wittinglaw48.CountermodelCounters', WHERE WHAT IT READS IS OF BULK AT MOST 1048576: true; the input reads as it did. -/
def countermodelCountersUptoRow : OpenClaim := { program := "ytkmclcmnoicagaagreatdoor", sum := "a204f1f111b1c081949e32da9f8b7cb421a6e0f57a743ba53126078c04c1776d", func := "witting/wittinglaw48.CountermodelCounters", spec := "countermodelCounters", unfollowed := true, recurses := true, named := ["math/bits.deBruijn64tab"], plainKeys := false, apart := false, laid := [("math/bits.deBruijn64tab", laid_math_bits_deBruijn64tab)], narrowed := true }
def CountermodelCountersUptoSaid : Prop := countermodelCountersUptoRow.holds Tryz.pinned (OpenSpec.upto countermodelCountersSpec)

/-- 'wittinglaw48.CountermodelDecides', WHERE WHAT IT READS IS OF BULK AT MOST 1048576: true; the input reads as it did. -/
def countermodelDecidesUptoRow : OpenClaim := { program := "ytkmclcmnoicagaagreatdoor", sum := "a204f1f111b1c081949e32da9f8b7cb421a6e0f57a743ba53126078c04c1776d", func := "witting/wittinglaw48.CountermodelDecides", spec := "countermodelDecides", unfollowed := true, recurses := true, named := ["math/bits.deBruijn64tab"], plainKeys := false, apart := false, laid := [("math/bits.deBruijn64tab", laid_math_bits_deBruijn64tab)], narrowed := true }
def CountermodelDecidesUptoSaid : Prop := countermodelDecidesUptoRow.holds Tryz.pinned (OpenSpec.upto countermodelDecidesSpec)

end Rows
end Go.Proofs.YtkmclcmnoicagaaGreatDoor
