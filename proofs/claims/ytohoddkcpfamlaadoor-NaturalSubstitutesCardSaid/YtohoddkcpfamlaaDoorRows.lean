/-
  NARROWER THAN 'FOR EVERY INPUT', by the rows' own cells (each row's printed sentence says how): NaturalSubstitutes: laid.
  DERIVED. THE GIVEN ROWS OF THIS SEAT. 1 by the template 'for every input the law returns true; each argument reads behind the call as it read before'; 0 by the template 'total and deterministic' (their statements: YtohoddkcpfamlaaDoorTotals.lean).
  GIVEN WITH THE SEED: the statements are not yours to turn. If you find one false, say at which input.
  Laid BY PROGRAM, IN A SANDBOX (cutbox-rows.mjs): the forced cells as the released guide's own fill.sh prints them over the translation 271a8c8fcb46ee9a… (all of the seat's roots in one cut). By AI agents, Wed Nov 11 2026. No macro, syntax, notation, axiom, sorry.
-/
import Derived.Test.YtohoddkcpfamlaaDoorChecked
import GoSem.Claim
import GoSem.ClaimJoined
import GoSem.ClaimMapViews
import Derived.JoinedTies
import Derived.KernelRfl
namespace Go.Proofs.YtohoddkcpfamlaaDoor
/- THE CELL 'sum', in the pinned program and in every row, IS THE sha256 OF THE DUMP (.gsa) THAT YtohoddkcpfamlaaDoorProg.lean LOADS. Nothing in Lean hashes anything: it is a label: what it is worth is what the hold of that sum in a sandbox is worth. -/
noncomputable def Tryd.pinned : Pinned := { name := "ytohoddkcpfamlaadoor", sum := "271a8c8fcb46ee9a0d0e6218437a1fc3a2a94c502f9c2e14b87a822a26b13f52", checked := Tryd.checked }
namespace Rows
def none {H : Type} : Left H := { results := [], args := [] }

/- WHAT THE LISTED PACKAGE-LEVEL VARIABLES READ AS WHEN THE CALL BEGINS. Each datum BY PROGRAM (the guide's laid-datum.mjs) off the statement by which the dump's own 'gosem.cut.vars' lays the variable. In a bare row this is a premise. The card (YtohoddkcpfamlaaDoorCards.lean) ties it to the program's text. -/
def laid_witting_natural_table {H : Type} : DataW H := .iface "func table" (.agg [.agg [.lit (.int .i64 3), .iface "func" (.lit (.string [40, 42, 119, 105, 116, 116, 105, 110, 103, 47, 110, 97, 116, 117, 114, 97, 108, 46, 99, 104, 101, 99, 107, 101, 114, 41, 46, 99, 111, 112, 105, 101, 100]))], .agg [.lit (.int .i64 4), .iface "func" (.lit (.string [40, 42, 119, 105, 116, 116, 105, 110, 103, 47, 110, 97, 116, 117, 114, 97, 108, 46, 99, 104, 101, 99, 107, 101, 114, 41, 46, 97, 110, 100, 73, 110]))], .agg [.lit (.int .i64 5), .iface "func" (.lit (.string [40, 42, 119, 105, 116, 116, 105, 110, 103, 47, 110, 97, 116, 117, 114, 97, 108, 46, 99, 104, 101, 99, 107, 101, 114, 41, 46, 97, 110, 100, 79, 117, 116]))], .agg [.lit (.int .i64 6), .iface "func" (.lit (.string [40, 42, 119, 105, 116, 116, 105, 110, 103, 47, 110, 97, 116, 117, 114, 97, 108, 46, 99, 104, 101, 99, 107, 101, 114, 41, 46, 111, 114, 73, 110]))], .agg [.lit (.int .i64 7), .iface "func" (.lit (.string [40, 42, 119, 105, 116, 116, 105, 110, 103, 47, 110, 97, 116, 117, 114, 97, 108, 46, 99, 104, 101, 99, 107, 101, 114, 41, 46, 111, 114, 79, 117, 116]))], .agg [.lit (.int .i64 8), .iface "func" (.lit (.string [40, 42, 119, 105, 116, 116, 105, 110, 103, 47, 110, 97, 116, 117, 114, 97, 108, 46, 99, 104, 101, 99, 107, 101, 114, 41, 46, 105, 109, 112, 73, 110]))], .agg [.lit (.int .i64 9), .iface "func" (.lit (.string [40, 42, 119, 105, 116, 116, 105, 110, 103, 47, 110, 97, 116, 117, 114, 97, 108, 46, 99, 104, 101, 99, 107, 101, 114, 41, 46, 105, 109, 112, 79, 117, 116]))], .agg [.lit (.int .i64 10), .iface "func" (.lit (.string [40, 42, 119, 105, 116, 116, 105, 110, 103, 47, 110, 97, 116, 117, 114, 97, 108, 46, 99, 104, 101, 99, 107, 101, 114, 41, 46, 110, 111, 116, 73, 110]))], .agg [.lit (.int .i64 11), .iface "func" (.lit (.string [40, 42, 119, 105, 116, 116, 105, 110, 103, 47, 110, 97, 116, 117, 114, 97, 108, 46, 99, 104, 101, 99, 107, 101, 114, 41, 46, 110, 111, 116, 79, 117, 116]))], .agg [.lit (.int .i64 12), .iface "func" (.lit (.string [40, 42, 119, 105, 116, 116, 105, 110, 103, 47, 110, 97, 116, 117, 114, 97, 108, 46, 99, 104, 101, 99, 107, 101, 114, 41, 46, 97, 98, 115, 117, 114, 100]))], .agg [.lit (.int .i64 13), .iface "func" (.lit (.string [40, 42, 119, 105, 116, 116, 105, 110, 103, 47, 110, 97, 116, 117, 114, 97, 108, 46, 99, 104, 101, 99, 107, 101, 114, 41, 46, 102, 114, 111, 109, 70, 97, 108, 115, 101]))], .agg [.lit (.int .i64 14), .iface "func" (.lit (.string [40, 42, 119, 105, 116, 116, 105, 110, 103, 47, 110, 97, 116, 117, 114, 97, 108, 46, 99, 104, 101, 99, 107, 101, 114, 41, 46, 105, 115, 84, 114, 117, 101]))], .agg [.lit (.int .i64 15), .iface "func" (.lit (.string [40, 42, 119, 105, 116, 116, 105, 110, 103, 47, 110, 97, 116, 117, 114, 97, 108, 46, 99, 104, 101, 99, 107, 101, 114, 41, 46, 105, 102, 102]))], .agg [.lit (.int .i64 16), .iface "func" (.lit (.string [40, 42, 119, 105, 116, 116, 105, 110, 103, 47, 110, 97, 116, 117, 114, 97, 108, 46, 99, 104, 101, 99, 107, 101, 114, 41, 46, 107, 110, 111, 119, 73, 110]))], .agg [.lit (.int .i64 17), .iface "func" (.lit (.string [40, 42, 119, 105, 116, 116, 105, 110, 103, 47, 110, 97, 116, 117, 114, 97, 108, 46, 99, 104, 101, 99, 107, 101, 114, 41, 46, 105, 109, 112, 111, 114, 116, 101, 100]))], .agg [.lit (.int .i64 18), .iface "func" (.lit (.string [40, 42, 119, 105, 116, 116, 105, 110, 103, 47, 110, 97, 116, 117, 114, 97, 108, 46, 99, 104, 101, 99, 107, 101, 114, 41, 46, 107, 110, 111, 119, 84]))], .agg [.lit (.int .i64 19), .iface "func" (.lit (.string [40, 42, 119, 105, 116, 116, 105, 110, 103, 47, 110, 97, 116, 117, 114, 97, 108, 46, 99, 104, 101, 99, 107, 101, 114, 41, 46, 100, 117, 97, 108]))], .agg [.lit (.int .i64 20), .iface "func" (.lit (.string [40, 42, 119, 105, 116, 116, 105, 110, 103, 47, 110, 97, 116, 117, 114, 97, 108, 46, 99, 104, 101, 99, 107, 101, 114, 41, 46, 115, 101, 114, 105, 97, 108]))]])

/-- 'wittinglaw50.NaturalSubstitutes': WHATEVER THE INPUT: true; the input reads as it did. -/
def naturalSubstitutesSpec : ChangeSpec := { name := "naturalSubstitutes", fn := fun _ => fun
  | [d1, d2] => { results := [.lit (.bool true)], args := [d1, d2] }
  | _ => none }
def naturalSubstitutesRow : OpenClaim := { program := "ytohoddkcpfamlaadoor", sum := "271a8c8fcb46ee9a0d0e6218437a1fc3a2a94c502f9c2e14b87a822a26b13f52", func := "witting/wittinglaw50.NaturalSubstitutes", spec := "naturalSubstitutes", unfollowed := true, recurses := true, named := ["witting/natural.table"], plainKeys := false, apart := false, laid := [("witting/natural.table", laid_witting_natural_table)] }
def NaturalSubstitutesSaid : Prop := naturalSubstitutesRow.holds Tryd.pinned (OpenSpec.ofChange naturalSubstitutesSpec)

/-- ITS FALSE NEIGHBOUR: 'it returns false'. Refute it at one input. -/
def naturalSubstitutesWrong : ChangeSpec := { name := "naturalSubstitutes", fn := fun _ => fun
  | [d1, d2] => { results := [.lit (.bool false)], args := [d1, d2] }
  | _ => none }
def NaturalSubstitutesWrongFalsely : Prop := naturalSubstitutesRow.holds Tryd.pinned (OpenSpec.ofChange naturalSubstitutesWrong)

/- THE SECOND FORM. 'bulk': how many values and letters a reading holds, each counted each time it is reached (what is shared counts as often as it is met; a slice's spare places count too). A statement '..UptoSaid' is the law's where the arguments, and the package variables that the reading takes, are together of bulk at most 1048576: NARROWER than '..Said'. Prove '..Said' where nothing that the law and all that it calls make is longer than what came in: it says more and counts as full. Else prove '..UptoSaid'. A law counts once. -/
mutual
def uptoBulk {H : Type} : DataW H → Nat
  | .lit (.string bytes) => bytes.length + 1
  | .lit _ => 1
  | .nil => 1
  | .ptr d => uptoBulk d + 1
  | .slice elems spare => uptoBulkAll elems + uptoBulkAll spare + 1
  | .agg parts => uptoBulkAll parts + 1
  | .iface _ d => uptoBulk d + 1
  | .map entries => uptoBulkEntries entries + 1
  | .held _ => 1
def uptoBulkAll {H : Type} : List (DataW H) → Nat
  | [] => 0
  | d :: r => uptoBulk d + uptoBulkAll r
def uptoBulkEntries {H : Type} : List (Lit × DataW H) → Nat
  | [] => 0
  | x :: r => uptoBulkEntry x + uptoBulkEntries r
def uptoBulkEntry {H : Type} : Lit × DataW H → Nat
  | (.string bytes, d) => bytes.length + uptoBulk d + 1
  | (_, d) => uptoBulk d + 1
 end
def uptoSmall : (H : Type) → List (DataW H) → Bool := fun _ ds => decide (uptoBulkAll ds ≤ 1048576)
def OpenSpec.upto (s : _root_.Go.ChangeSpec) : _root_.Go.OpenSpec := { _root_.Go.OpenSpec.ofChange s with cond := some uptoSmall }

/-- 'wittinglaw50.NaturalSubstitutes', WHERE WHAT IT READS IS OF BULK AT MOST 1048576: true; the input reads as it did. -/
def naturalSubstitutesUptoRow : OpenClaim := { program := "ytohoddkcpfamlaadoor", sum := "271a8c8fcb46ee9a0d0e6218437a1fc3a2a94c502f9c2e14b87a822a26b13f52", func := "witting/wittinglaw50.NaturalSubstitutes", spec := "naturalSubstitutes", unfollowed := true, recurses := true, named := ["witting/natural.table"], plainKeys := false, apart := false, laid := [("witting/natural.table", laid_witting_natural_table)], narrowed := true }
def NaturalSubstitutesUptoSaid : Prop := naturalSubstitutesUptoRow.holds Tryd.pinned (OpenSpec.upto naturalSubstitutesSpec)

end Rows
end Go.Proofs.YtohoddkcpfamlaaDoor
