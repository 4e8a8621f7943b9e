/-
  No cell of these rows narrows 'for every input' (looked for: loops, veiled, ifaces, maps, wideKeys, modest, calm, conditions, laid).
  DERIVED. THE GIVEN ROWS OF THIS SEAT. 3 by the template 'for every input the law returns true; each argument reads behind the call as it read before'; 0 by the template 'total and deterministic' (their statements: YtfcmdiigfgbgbaaTotals.lean).
  GIVEN WITH THE SEED: the statements are not yours to turn. If you find one false, say at which input.
  Laid BY PROGRAM, IN A SANDBOX (cutbox-rows.mjs): the forced cells as the released guide's own fill.sh prints them over the translation 8cf96519932cd0b5… (all of the seat's roots in one cut). By AI agents, Wed Nov 11 2026. No macro, syntax, notation, axiom, sorry.
-/
import Derived.Test.YtfcmdiigfgbgbaaChecked
import GoSem.Claim
import GoSem.ClaimJoined
import GoSem.ClaimMapViews
import Derived.JoinedTies
import Derived.KernelRfl
namespace Go.Proofs.Ytfcmdiigfgbgbaa
/- THE CELL 'sum', in the pinned program and in every row, IS THE sha256 OF THE DUMP (.gsa) THAT YtfcmdiigfgbgbaaProg.lean LOADS. Nothing in Lean hashes anything: it is a label: what it is worth is what the hold of that sum in a sandbox is worth. -/
noncomputable def Try.pinned : Pinned := { name := "ytfcmdiigfgbgbaa", sum := "8cf96519932cd0b5be67f89853dbdc8f1220411bdcfb4ea739146a2d6445b310", checked := Try.checked }
namespace Rows
def none {H : Type} : Left H := { results := [], args := [] }

/-- 'wittinglaw46.SequentStronger': WHATEVER THE INPUT: true; the input reads as it did. -/
def sequentStrongerSpec : ChangeSpec := { name := "sequentStronger", fn := fun _ => fun
  | [d] => { results := [.lit (.bool true)], args := [d] }
  | _ => none }
def sequentStrongerRow : OpenClaim := { program := "ytfcmdiigfgbgbaa", sum := "8cf96519932cd0b5be67f89853dbdc8f1220411bdcfb4ea739146a2d6445b310", func := "witting/wittinglaw46.SequentStronger", spec := "sequentStronger", unfollowed := true, recurses := true, plainKeys := false, apart := false }
def SequentStrongerSaid : Prop := sequentStrongerRow.holds Try.pinned (OpenSpec.ofChange sequentStrongerSpec)

/-- ITS FALSE NEIGHBOUR: 'it returns false'. Refute it at one input. -/
def sequentStrongerWrong : ChangeSpec := { name := "sequentStronger", fn := fun _ => fun
  | [d] => { results := [.lit (.bool false)], args := [d] }
  | _ => none }
def SequentStrongerWrongFalsely : Prop := sequentStrongerRow.holds Try.pinned (OpenSpec.ofChange sequentStrongerWrong)

/-- 'wittinglaw46.SequentWeakens': WHATEVER THE INPUT: true; the input reads as it did. -/
def sequentWeakensSpec : ChangeSpec := { name := "sequentWeakens", fn := fun _ => fun
  | [d1, d2, d3] => { results := [.lit (.bool true)], args := [d1, d2, d3] }
  | _ => none }
def sequentWeakensRow : OpenClaim := { program := "ytfcmdiigfgbgbaa", sum := "8cf96519932cd0b5be67f89853dbdc8f1220411bdcfb4ea739146a2d6445b310", func := "witting/wittinglaw46.SequentWeakens", spec := "sequentWeakens", unfollowed := true, recurses := true, plainKeys := false, apart := false }
def SequentWeakensSaid : Prop := sequentWeakensRow.holds Try.pinned (OpenSpec.ofChange sequentWeakensSpec)

/-- ITS FALSE NEIGHBOUR: 'it returns false'. Refute it at one input. -/
def sequentWeakensWrong : ChangeSpec := { name := "sequentWeakens", fn := fun _ => fun
  | [d1, d2, d3] => { results := [.lit (.bool false)], args := [d1, d2, d3] }
  | _ => none }
def SequentWeakensWrongFalsely : Prop := sequentWeakensRow.holds Try.pinned (OpenSpec.ofChange sequentWeakensWrong)

/-- 'wittinglaw46.SequentFirst': WHATEVER THE INPUT: true; the input reads as it did. -/
def sequentFirstSpec : ChangeSpec := { name := "sequentFirst", fn := fun _ => fun
  | [d] => { results := [.lit (.bool true)], args := [d] }
  | _ => none }
def sequentFirstRow : OpenClaim := { program := "ytfcmdiigfgbgbaa", sum := "8cf96519932cd0b5be67f89853dbdc8f1220411bdcfb4ea739146a2d6445b310", func := "witting/wittinglaw46.SequentFirst", spec := "sequentFirst", unfollowed := true, recurses := true, plainKeys := false, apart := false }
def SequentFirstSaid : Prop := sequentFirstRow.holds Try.pinned (OpenSpec.ofChange sequentFirstSpec)

/-- ITS FALSE NEIGHBOUR: 'it returns false'. Refute it at one input. -/
def sequentFirstWrong : ChangeSpec := { name := "sequentFirst", fn := fun _ => fun
  | [d] => { results := [.lit (.bool false)], args := [d] }
  | _ => none }
def SequentFirstWrongFalsely : Prop := sequentFirstRow.holds Try.pinned (OpenSpec.ofChange sequentFirstWrong)

/- THE SECOND FORM. 'bulk': how many values and letters a reading holds, each counted each time it is reached (what is shared counts as often as it is met; a slice's spare places count too). A statement '..UptoSaid' is the law's where the arguments, and the package variables that the reading takes, are together of bulk at most 1048576: NARROWER than '..Said'. Prove '..Said' where nothing that the law and all that it calls make is longer than what came in: it says more and counts as full. Else prove '..UptoSaid'. A law counts once. -/
mutual
def uptoBulk {H : Type} : DataW H → Nat
  | .lit (.string bytes) => bytes.length + 1
  | .lit _ => 1
  | .nil => 1
  | .ptr d => uptoBulk d + 1
  | .slice elems spare => uptoBulkAll elems + uptoBulkAll spare + 1
  | .agg parts => uptoBulkAll parts + 1
  | .iface _ d => uptoBulk d + 1
  | .map entries => uptoBulkEntries entries + 1
  | .held _ => 1
def uptoBulkAll {H : Type} : List (DataW H) → Nat
  | [] => 0
  | d :: r => uptoBulk d + uptoBulkAll r
def uptoBulkEntries {H : Type} : List (Lit × DataW H) → Nat
  | [] => 0
  | x :: r => uptoBulkEntry x + uptoBulkEntries r
def uptoBulkEntry {H : Type} : Lit × DataW H → Nat
  | (.string bytes, d) => bytes.length + uptoBulk d + 1
  | (_, d) => uptoBulk d + 1
 end
def uptoSmall : (H : Type) → List (DataW H) → Bool := fun _ ds => decide (uptoBulkAll ds ≤ 1048576)
def OpenSpec.upto (s : _root_.Go.ChangeSpec) : _root_.Go.OpenSpec := { _root_.Go.OpenSpec.ofChange s with cond := some uptoSmall }

/-- 'wittinglaw46.SequentStronger', WHERE WHAT IT READS IS OF BULK AT MOST 1048576: true; the input reads as it did. -/
def sequentStrongerUptoRow : OpenClaim := { program := "ytfcmdiigfgbgbaa", sum := "8cf96519932cd0b5be67f89853dbdc8f1220411bdcfb4ea739146a2d6445b310", func := "witting/wittinglaw46.SequentStronger", spec := "sequentStronger", unfollowed := true, recurses := true, plainKeys := false, apart := false, narrowed := true }
def SequentStrongerUptoSaid : Prop := sequentStrongerUptoRow.holds Try.pinned (OpenSpec.upto sequentStrongerSpec)

/-- 'wittinglaw46.SequentWeakens', WHERE WHAT IT READS IS OF BULK AT MOST 1048576: true; the input reads as it did. -/
def sequentWeakensUptoRow : OpenClaim := { program := "ytfcmdiigfgbgbaa", sum := "8cf96519932cd0b5be67f89853dbdc8f1220411bdcfb4ea739146a2d6445b310", func := "witting/wittinglaw46.SequentWeakens", spec := "sequentWeakens", unfollowed := true, recurses := true, plainKeys := false, apart := false, narrowed := true }
def SequentWeakensUptoSaid : Prop := sequentWeakensUptoRow.holds Try.pinned (OpenSpec.upto sequentWeakensSpec)

/-- 'wittinglaw46.SequentFirst', WHERE WHAT IT READS IS OF BULK AT MOST 1048576: true; the input reads as it did. -/
def sequentFirstUptoRow : OpenClaim := { program := "ytfcmdiigfgbgbaa", sum := "8cf96519932cd0b5be67f89853dbdc8f1220411bdcfb4ea739146a2d6445b310", func := "witting/wittinglaw46.SequentFirst", spec := "sequentFirst", unfollowed := true, recurses := true, plainKeys := false, apart := false, narrowed := true }
def SequentFirstUptoSaid : Prop := sequentFirstUptoRow.holds Try.pinned (OpenSpec.upto sequentFirstSpec)

end Rows
end Go.Proofs.Ytfcmdiigfgbgbaa
