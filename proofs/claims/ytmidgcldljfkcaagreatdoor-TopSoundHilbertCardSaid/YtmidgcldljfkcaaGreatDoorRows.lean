/-
  NARROWER THAN 'FOR EVERY INPUT', by the rows' own cells (each row's printed sentence says how): TopSoundNatural: laid · TopSoundRefutations: laid · TopSoundHilbert: laid.
  DERIVED. THE GIVEN ROWS OF THIS SEAT. 3 by the template 'for every input the law returns true; each argument reads behind the call as it read before'; 0 by the template 'total and deterministic' (their statements: YtmidgcldljfkcaaGreatDoorTotals.lean).
  GIVEN WITH THE SEED: the statements are not yours to turn. If you find one false, say at which input.
  Laid BY PROGRAM, IN A SANDBOX (cutbox-rows.mjs): the forced cells as the released guide's own fill.sh prints them over the translation 7897457fb43365f9… (all of the seat's roots in one cut). By AI agents, Wed Nov 11 2026. No macro, syntax, notation, axiom, sorry.
-/
import Derived.Test.YtmidgcldljfkcaaGreatDoorChecked
import GoSem.Claim
import GoSem.ClaimJoined
import GoSem.ClaimMapViews
import Derived.JoinedTies
import Derived.KernelRfl
namespace Go.Proofs.YtmidgcldljfkcaaGreatDoor
/- THE CELL 'sum', in the pinned program and in every row, IS THE sha256 OF THE DUMP (.gsa) THAT YtmidgcldljfkcaaGreatDoorProg.lean LOADS. Nothing in Lean hashes anything: it is a label: what it is worth is what the hold of that sum in a sandbox is worth. -/
noncomputable def Tryz.pinned : Pinned := { name := "ytmidgcldljfkcaagreatdoor", sum := "7897457fb43365f9d88c4aeae3d8584e66e3bf2876587d0a48043599c9836c00", checked := Tryz.checked }
namespace Rows
def none {H : Type} : Left H := { results := [], args := [] }

/- WHAT THE LISTED PACKAGE-LEVEL VARIABLES READ AS WHEN THE CALL BEGINS. Each datum BY PROGRAM (the guide's laid-datum.mjs) off the statement by which the dump's own 'gosem.cut.vars' lays the variable. In a bare row this is a premise. The card (YtmidgcldljfkcaaGreatDoorCards.lean) ties it to the program's text. -/
def laid_math_bits_deBruijn64tab {H : Type} : DataW H := .agg [.lit (.int .u8 0), .lit (.int .u8 1), .lit (.int .u8 56), .lit (.int .u8 2), .lit (.int .u8 57), .lit (.int .u8 49), .lit (.int .u8 28), .lit (.int .u8 3), .lit (.int .u8 61), .lit (.int .u8 58), .lit (.int .u8 42), .lit (.int .u8 50), .lit (.int .u8 38), .lit (.int .u8 29), .lit (.int .u8 17), .lit (.int .u8 4), .lit (.int .u8 62), .lit (.int .u8 47), .lit (.int .u8 59), .lit (.int .u8 36), .lit (.int .u8 45), .lit (.int .u8 43), .lit (.int .u8 51), .lit (.int .u8 22), .lit (.int .u8 53), .lit (.int .u8 39), .lit (.int .u8 33), .lit (.int .u8 30), .lit (.int .u8 24), .lit (.int .u8 18), .lit (.int .u8 12), .lit (.int .u8 5), .lit (.int .u8 63), .lit (.int .u8 55), .lit (.int .u8 48), .lit (.int .u8 27), .lit (.int .u8 60), .lit (.int .u8 41), .lit (.int .u8 37), .lit (.int .u8 16), .lit (.int .u8 46), .lit (.int .u8 35), .lit (.int .u8 44), .lit (.int .u8 21), .lit (.int .u8 52), .lit (.int .u8 32), .lit (.int .u8 23), .lit (.int .u8 11), .lit (.int .u8 54), .lit (.int .u8 26), .lit (.int .u8 40), .lit (.int .u8 15), .lit (.int .u8 34), .lit (.int .u8 20), .lit (.int .u8 31), .lit (.int .u8 10), .lit (.int .u8 25), .lit (.int .u8 14), .lit (.int .u8 19), .lit (.int .u8 9), .lit (.int .u8 13), .lit (.int .u8 8), .lit (.int .u8 7), .lit (.int .u8 6)]
def laid_witting_hilbert_axioms {H : Type} : DataW H := .iface "func table" (.agg [.nil, .iface "func" (.lit (.string [119, 105, 116, 116, 105, 110, 103, 47, 104, 105, 108, 98, 101, 114, 116, 46, 116, 97, 117, 116, 111, 108, 111, 103, 121])), .iface "func" (.lit (.string [119, 105, 116, 116, 105, 110, 103, 47, 104, 105, 108, 98, 101, 114, 116, 46, 100, 105, 115, 116, 114, 105, 98, 117, 116, 101, 115])), .iface "func" (.lit (.string [119, 105, 116, 116, 105, 110, 103, 47, 104, 105, 108, 98, 101, 114, 116, 46, 97, 120, 105, 111, 109, 115, 36, 49])), .iface "func" (.lit (.string [119, 105, 116, 116, 105, 110, 103, 47, 104, 105, 108, 98, 101, 114, 116, 46, 97, 120, 105, 111, 109, 115, 36, 50])), .iface "func" (.lit (.string [119, 105, 116, 116, 105, 110, 103, 47, 104, 105, 108, 98, 101, 114, 116, 46, 105, 110, 116, 114, 111, 115, 112, 101, 99, 116, 115])), .iface "func" (.lit (.string [119, 105, 116, 116, 105, 110, 103, 47, 104, 105, 108, 98, 101, 114, 116, 46, 97, 120, 105, 111, 109, 115, 36, 51])), .iface "func" (.lit (.string [119, 105, 116, 116, 105, 110, 103, 47, 104, 105, 108, 98, 101, 114, 116, 46, 100, 117, 97, 108])), .iface "func" (.lit (.string [119, 105, 116, 116, 105, 110, 103, 47, 104, 105, 108, 98, 101, 114, 116, 46, 101, 118, 101, 114, 121, 98, 111, 100, 121])), .iface "func" (.lit (.string [119, 105, 116, 116, 105, 110, 103, 47, 104, 105, 108, 98, 101, 114, 116, 46, 102, 105, 120, 101, 100]))])
def laid_witting_natural_table {H : Type} : DataW H := .iface "func table" (.agg [.agg [.lit (.int .i64 3), .iface "func" (.lit (.string [40, 42, 119, 105, 116, 116, 105, 110, 103, 47, 110, 97, 116, 117, 114, 97, 108, 46, 99, 104, 101, 99, 107, 101, 114, 41, 46, 99, 111, 112, 105, 101, 100]))], .agg [.lit (.int .i64 4), .iface "func" (.lit (.string [40, 42, 119, 105, 116, 116, 105, 110, 103, 47, 110, 97, 116, 117, 114, 97, 108, 46, 99, 104, 101, 99, 107, 101, 114, 41, 46, 97, 110, 100, 73, 110]))], .agg [.lit (.int .i64 5), .iface "func" (.lit (.string [40, 42, 119, 105, 116, 116, 105, 110, 103, 47, 110, 97, 116, 117, 114, 97, 108, 46, 99, 104, 101, 99, 107, 101, 114, 41, 46, 97, 110, 100, 79, 117, 116]))], .agg [.lit (.int .i64 6), .iface "func" (.lit (.string [40, 42, 119, 105, 116, 116, 105, 110, 103, 47, 110, 97, 116, 117, 114, 97, 108, 46, 99, 104, 101, 99, 107, 101, 114, 41, 46, 111, 114, 73, 110]))], .agg [.lit (.int .i64 7), .iface "func" (.lit (.string [40, 42, 119, 105, 116, 116, 105, 110, 103, 47, 110, 97, 116, 117, 114, 97, 108, 46, 99, 104, 101, 99, 107, 101, 114, 41, 46, 111, 114, 79, 117, 116]))], .agg [.lit (.int .i64 8), .iface "func" (.lit (.string [40, 42, 119, 105, 116, 116, 105, 110, 103, 47, 110, 97, 116, 117, 114, 97, 108, 46, 99, 104, 101, 99, 107, 101, 114, 41, 46, 105, 109, 112, 73, 110]))], .agg [.lit (.int .i64 9), .iface "func" (.lit (.string [40, 42, 119, 105, 116, 116, 105, 110, 103, 47, 110, 97, 116, 117, 114, 97, 108, 46, 99, 104, 101, 99, 107, 101, 114, 41, 46, 105, 109, 112, 79, 117, 116]))], .agg [.lit (.int .i64 10), .iface "func" (.lit (.string [40, 42, 119, 105, 116, 116, 105, 110, 103, 47, 110, 97, 116, 117, 114, 97, 108, 46, 99, 104, 101, 99, 107, 101, 114, 41, 46, 110, 111, 116, 73, 110]))], .agg [.lit (.int .i64 11), .iface "func" (.lit (.string [40, 42, 119, 105, 116, 116, 105, 110, 103, 47, 110, 97, 116, 117, 114, 97, 108, 46, 99, 104, 101, 99, 107, 101, 114, 41, 46, 110, 111, 116, 79, 117, 116]))], .agg [.lit (.int .i64 12), .iface "func" (.lit (.string [40, 42, 119, 105, 116, 116, 105, 110, 103, 47, 110, 97, 116, 117, 114, 97, 108, 46, 99, 104, 101, 99, 107, 101, 114, 41, 46, 97, 98, 115, 117, 114, 100]))], .agg [.lit (.int .i64 13), .iface "func" (.lit (.string [40, 42, 119, 105, 116, 116, 105, 110, 103, 47, 110, 97, 116, 117, 114, 97, 108, 46, 99, 104, 101, 99, 107, 101, 114, 41, 46, 102, 114, 111, 109, 70, 97, 108, 115, 101]))], .agg [.lit (.int .i64 14), .iface "func" (.lit (.string [40, 42, 119, 105, 116, 116, 105, 110, 103, 47, 110, 97, 116, 117, 114, 97, 108, 46, 99, 104, 101, 99, 107, 101, 114, 41, 46, 105, 115, 84, 114, 117, 101]))], .agg [.lit (.int .i64 15), .iface "func" (.lit (.string [40, 42, 119, 105, 116, 116, 105, 110, 103, 47, 110, 97, 116, 117, 114, 97, 108, 46, 99, 104, 101, 99, 107, 101, 114, 41, 46, 105, 102, 102]))], .agg [.lit (.int .i64 16), .iface "func" (.lit (.string [40, 42, 119, 105, 116, 116, 105, 110, 103, 47, 110, 97, 116, 117, 114, 97, 108, 46, 99, 104, 101, 99, 107, 101, 114, 41, 46, 107, 110, 111, 119, 73, 110]))], .agg [.lit (.int .i64 17), .iface "func" (.lit (.string [40, 42, 119, 105, 116, 116, 105, 110, 103, 47, 110, 97, 116, 117, 114, 97, 108, 46, 99, 104, 101, 99, 107, 101, 114, 41, 46, 105, 109, 112, 111, 114, 116, 101, 100]))], .agg [.lit (.int .i64 18), .iface "func" (.lit (.string [40, 42, 119, 105, 116, 116, 105, 110, 103, 47, 110, 97, 116, 117, 114, 97, 108, 46, 99, 104, 101, 99, 107, 101, 114, 41, 46, 107, 110, 111, 119, 84]))], .agg [.lit (.int .i64 19), .iface "func" (.lit (.string [40, 42, 119, 105, 116, 116, 105, 110, 103, 47, 110, 97, 116, 117, 114, 97, 108, 46, 99, 104, 101, 99, 107, 101, 114, 41, 46, 100, 117, 97, 108]))], .agg [.lit (.int .i64 20), .iface "func" (.lit (.string [40, 42, 119, 105, 116, 116, 105, 110, 103, 47, 110, 97, 116, 117, 114, 97, 108, 46, 99, 104, 101, 99, 107, 101, 114, 41, 46, 115, 101, 114, 105, 97, 108]))]])

/-- 'wittingtop.TopSoundNatural': WHATEVER THE INPUT: true; the input reads as it did. -/
def topSoundNaturalSpec : ChangeSpec := { name := "topSoundNatural", fn := fun _ => fun
  | [d1, d2] => { results := [.lit (.bool true)], args := [d1, d2] }
  | _ => none }
def topSoundNaturalRow : OpenClaim := { program := "ytmidgcldljfkcaagreatdoor", sum := "7897457fb43365f9d88c4aeae3d8584e66e3bf2876587d0a48043599c9836c00", func := "witting/wittingtop.TopSoundNatural", spec := "topSoundNatural", unfollowed := true, recurses := true, named := ["witting/hilbert.axioms", "witting/natural.table", "math/bits.deBruijn64tab"], plainKeys := false, apart := false, laid := [("math/bits.deBruijn64tab", laid_math_bits_deBruijn64tab), ("witting/hilbert.axioms", laid_witting_hilbert_axioms), ("witting/natural.table", laid_witting_natural_table)] }
def TopSoundNaturalSaid : Prop := topSoundNaturalRow.holds Tryz.pinned (OpenSpec.ofChange topSoundNaturalSpec)

/-- ITS FALSE NEIGHBOUR: 'it returns false'. Refute it at one input. -/
def topSoundNaturalWrong : ChangeSpec := { name := "topSoundNatural", fn := fun _ => fun
  | [d1, d2] => { results := [.lit (.bool false)], args := [d1, d2] }
  | _ => none }
def TopSoundNaturalWrongFalsely : Prop := topSoundNaturalRow.holds Tryz.pinned (OpenSpec.ofChange topSoundNaturalWrong)

/-- 'wittingtop.TopSoundRefutations': WHATEVER THE INPUT: true; the input reads as it did. -/
def topSoundRefutationsSpec : ChangeSpec := { name := "topSoundRefutations", fn := fun _ => fun
  | [d1, d2] => { results := [.lit (.bool true)], args := [d1, d2] }
  | _ => none }
def topSoundRefutationsRow : OpenClaim := { program := "ytmidgcldljfkcaagreatdoor", sum := "7897457fb43365f9d88c4aeae3d8584e66e3bf2876587d0a48043599c9836c00", func := "witting/wittingtop.TopSoundRefutations", spec := "topSoundRefutations", unfollowed := true, recurses := true, named := ["witting/hilbert.axioms", "witting/natural.table", "math/bits.deBruijn64tab"], plainKeys := false, apart := false, laid := [("math/bits.deBruijn64tab", laid_math_bits_deBruijn64tab), ("witting/hilbert.axioms", laid_witting_hilbert_axioms), ("witting/natural.table", laid_witting_natural_table)] }
def TopSoundRefutationsSaid : Prop := topSoundRefutationsRow.holds Tryz.pinned (OpenSpec.ofChange topSoundRefutationsSpec)

/-- ITS FALSE NEIGHBOUR: 'it returns false'. Refute it at one input. -/
def topSoundRefutationsWrong : ChangeSpec := { name := "topSoundRefutations", fn := fun _ => fun
  | [d1, d2] => { results := [.lit (.bool false)], args := [d1, d2] }
  | _ => none }
def TopSoundRefutationsWrongFalsely : Prop := topSoundRefutationsRow.holds Tryz.pinned (OpenSpec.ofChange topSoundRefutationsWrong)

/-- 'wittingtop.TopSoundHilbert': WHATEVER THE INPUT: true; the input reads as it did. -/
def topSoundHilbertSpec : ChangeSpec := { name := "topSoundHilbert", fn := fun _ => fun
  | [d1, d2, d3] => { results := [.lit (.bool true)], args := [d1, d2, d3] }
  | _ => none }
def topSoundHilbertRow : OpenClaim := { program := "ytmidgcldljfkcaagreatdoor", sum := "7897457fb43365f9d88c4aeae3d8584e66e3bf2876587d0a48043599c9836c00", func := "witting/wittingtop.TopSoundHilbert", spec := "topSoundHilbert", unfollowed := true, recurses := true, named := ["witting/hilbert.axioms", "witting/natural.table", "math/bits.deBruijn64tab"], plainKeys := false, apart := false, laid := [("math/bits.deBruijn64tab", laid_math_bits_deBruijn64tab), ("witting/hilbert.axioms", laid_witting_hilbert_axioms), ("witting/natural.table", laid_witting_natural_table)] }
def TopSoundHilbertSaid : Prop := topSoundHilbertRow.holds Tryz.pinned (OpenSpec.ofChange topSoundHilbertSpec)

/-- ITS FALSE NEIGHBOUR: 'it returns false'. Refute it at one input. -/
def topSoundHilbertWrong : ChangeSpec := { name := "topSoundHilbert", fn := fun _ => fun
  | [d1, d2, d3] => { results := [.lit (.bool false)], args := [d1, d2, d3] }
  | _ => none }
def TopSoundHilbertWrongFalsely : Prop := topSoundHilbertRow.holds Tryz.pinned (OpenSpec.ofChange topSoundHilbertWrong)

/- THE SECOND FORM. 'bulk': how many values and letters a reading holds, each counted each time it is reached (what is shared counts as often as it is met; a slice's spare places count too). A statement '..UptoSaid' is the law's where the arguments, and the package variables that the reading takes, are together of bulk at most 1048576: NARROWER than '..Said'. Prove '..Said' where nothing that the law and all that it calls make is longer than what came in: it says more and counts as full. Else prove '..UptoSaid'. A law counts once. -/
mutual
def uptoBulk {H : Type} : DataW H → Nat
  | .lit (.string bytes) => bytes.length + 1
  | .lit _ => 1
  | .nil => 1
  | .ptr d => uptoBulk d + 1
  | .slice elems spare => uptoBulkAll elems + uptoBulkAll spare + 1
  | .agg parts => uptoBulkAll parts + 1
  | .iface _ d => uptoBulk d + 1
  | .map entries => uptoBulkEntries entries + 1
  | .held _ => 1
def uptoBulkAll {H : Type} : List (DataW H) → Nat
  | [] => 0
  | d :: r => uptoBulk d + uptoBulkAll r
def uptoBulkEntries {H : Type} : List (Lit × DataW H) → Nat
  | [] => 0
  | x :: r => uptoBulkEntry x + uptoBulkEntries r
def uptoBulkEntry {H : Type} : Lit × DataW H → Nat
  | (.string bytes, d) => bytes.length + uptoBulk d + 1
  | (_, d) => uptoBulk d + 1
 end
def uptoSmall : (H : Type) → List (DataW H) → Bool := fun _ ds => decide (uptoBulkAll ds ≤ 1048576)
def OpenSpec.upto (s : _root_.Go.ChangeSpec) : _root_.Go.OpenSpec := { _root_.Go.OpenSpec.ofChange s with cond := some uptoSmall }

/-- 'wittingtop.TopSoundNatural', WHERE WHAT IT READS IS OF BULK AT MOST 1048576: true; the input reads as it did. -/
def topSoundNaturalUptoRow : OpenClaim := { program := "ytmidgcldljfkcaagreatdoor", sum := "7897457fb43365f9d88c4aeae3d8584e66e3bf2876587d0a48043599c9836c00", func := "witting/wittingtop.TopSoundNatural", spec := "topSoundNatural", unfollowed := true, recurses := true, named := ["witting/hilbert.axioms", "witting/natural.table", "math/bits.deBruijn64tab"], plainKeys := false, apart := false, laid := [("math/bits.deBruijn64tab", laid_math_bits_deBruijn64tab), ("witting/hilbert.axioms", laid_witting_hilbert_axioms), ("witting/natural.table", laid_witting_natural_table)], narrowed := true }
def TopSoundNaturalUptoSaid : Prop := topSoundNaturalUptoRow.holds Tryz.pinned (OpenSpec.upto topSoundNaturalSpec)

/-- 'wittingtop.TopSoundRefutations', WHERE WHAT IT READS IS OF BULK AT MOST 1048576: true; the input reads as it did. -/
def topSoundRefutationsUptoRow : OpenClaim := { program := "ytmidgcldljfkcaagreatdoor", sum := "7897457fb43365f9d88c4aeae3d8584e66e3bf2876587d0a48043599c9836c00", func := "witting/wittingtop.TopSoundRefutations", spec := "topSoundRefutations", unfollowed := true, recurses := true, named := ["witting/hilbert.axioms", "witting/natural.table", "math/bits.deBruijn64tab"], plainKeys := false, apart := false, laid := [("math/bits.deBruijn64tab", laid_math_bits_deBruijn64tab), ("witting/hilbert.axioms", laid_witting_hilbert_axioms), ("witting/natural.table", laid_witting_natural_table)], narrowed := true }
def TopSoundRefutationsUptoSaid : Prop := topSoundRefutationsUptoRow.holds Tryz.pinned (OpenSpec.upto topSoundRefutationsSpec)

/-- 'wittingtop.TopSoundHilbert', WHERE WHAT IT READS IS OF BULK AT MOST 1048576: true; the input reads as it did. -/
def topSoundHilbertUptoRow : OpenClaim := { program := "ytmidgcldljfkcaagreatdoor", sum := "7897457fb43365f9d88c4aeae3d8584e66e3bf2876587d0a48043599c9836c00", func := "witting/wittingtop.TopSoundHilbert", spec := "topSoundHilbert", unfollowed := true, recurses := true, named := ["witting/hilbert.axioms", "witting/natural.table", "math/bits.deBruijn64tab"], plainKeys := false, apart := false, laid := [("math/bits.deBruijn64tab", laid_math_bits_deBruijn64tab), ("witting/hilbert.axioms", laid_witting_hilbert_axioms), ("witting/natural.table", laid_witting_natural_table)], narrowed := true }
def TopSoundHilbertUptoSaid : Prop := topSoundHilbertUptoRow.holds Tryz.pinned (OpenSpec.upto topSoundHilbertSpec)

end Rows
end Go.Proofs.YtmidgcldljfkcaaGreatDoor
