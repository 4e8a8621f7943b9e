/-
  NARROWER THAN 'FOR EVERY INPUT', by the rows' own cells (each row's printed sentence says how): NaturalChecks: laid · NaturalTheorems: laid · NaturalLogics: laid · NaturalAxioms: laid.
  DERIVED. THE GIVEN ROWS OF THIS SEAT. 4 by the template 'for every input the law returns true; each argument reads behind the call as it read before'; 0 by the template 'total and deterministic' (their statements: YtipnbfbakohcaaaDoorTotals.lean).
  GIVEN WITH THE SEED: the statements are not yours to turn. If you find one false, say at which input.
  Laid BY PROGRAM, IN A SANDBOX (cutbox-rows.mjs): the forced cells as the released guide's own fill.sh prints them over the translation 21712468cc96ecf0… (all of the seat's roots in one cut). By AI agents, Wed Nov 11 2026. No macro, syntax, notation, axiom, sorry.
-/
import Derived.Test.YtipnbfbakohcaaaDoorChecked
import GoSem.Claim
import GoSem.ClaimJoined
import GoSem.ClaimMapViews
import Derived.JoinedTies
import Derived.KernelRfl
namespace Go.Proofs.YtipnbfbakohcaaaDoor
/- THE CELL 'sum', in the pinned program and in every row, IS THE sha256 OF THE DUMP (.gsa) THAT YtipnbfbakohcaaaDoorProg.lean LOADS. Nothing in Lean hashes anything: it is a label: what it is worth is what the hold of that sum in a sandbox is worth. -/
noncomputable def Tryd.pinned : Pinned := { name := "ytipnbfbakohcaaadoor", sum := "21712468cc96ecf004186b5505bba515dc1bc3776ce5026f20e50c05f058dd14", checked := Tryd.checked }
namespace Rows
def none {H : Type} : Left H := { results := [], args := [] }

/- WHAT THE LISTED PACKAGE-LEVEL VARIABLES READ AS WHEN THE CALL BEGINS. Each datum BY PROGRAM (the guide's laid-datum.mjs) off the statement by which the dump's own 'gosem.cut.vars' lays the variable. In a bare row this is a premise. The card (YtipnbfbakohcaaaDoorCards.lean) ties it to the program's text. -/
def laid_witting_natural_table {H : Type} : DataW H := .iface "func table" (.agg [.agg [.lit (.int .i64 3), .iface "func" (.lit (.string [40, 42, 119, 105, 116, 116, 105, 110, 103, 47, 110, 97, 116, 117, 114, 97, 108, 46, 99, 104, 101, 99, 107, 101, 114, 41, 46, 99, 111, 112, 105, 101, 100]))], .agg [.lit (.int .i64 4), .iface "func" (.lit (.string [40, 42, 119, 105, 116, 116, 105, 110, 103, 47, 110, 97, 116, 117, 114, 97, 108, 46, 99, 104, 101, 99, 107, 101, 114, 41, 46, 97, 110, 100, 73, 110]))], .agg [.lit (.int .i64 5), .iface "func" (.lit (.string [40, 42, 119, 105, 116, 116, 105, 110, 103, 47, 110, 97, 116, 117, 114, 97, 108, 46, 99, 104, 101, 99, 107, 101, 114, 41, 46, 97, 110, 100, 79, 117, 116]))], .agg [.lit (.int .i64 6), .iface "func" (.lit (.string [40, 42, 119, 105, 116, 116, 105, 110, 103, 47, 110, 97, 116, 117, 114, 97, 108, 46, 99, 104, 101, 99, 107, 101, 114, 41, 46, 111, 114, 73, 110]))], .agg [.lit (.int .i64 7), .iface "func" (.lit (.string [40, 42, 119, 105, 116, 116, 105, 110, 103, 47, 110, 97, 116, 117, 114, 97, 108, 46, 99, 104, 101, 99, 107, 101, 114, 41, 46, 111, 114, 79, 117, 116]))], .agg [.lit (.int .i64 8), .iface "func" (.lit (.string [40, 42, 119, 105, 116, 116, 105, 110, 103, 47, 110, 97, 116, 117, 114, 97, 108, 46, 99, 104, 101, 99, 107, 101, 114, 41, 46, 105, 109, 112, 73, 110]))], .agg [.lit (.int .i64 9), .iface "func" (.lit (.string [40, 42, 119, 105, 116, 116, 105, 110, 103, 47, 110, 97, 116, 117, 114, 97, 108, 46, 99, 104, 101, 99, 107, 101, 114, 41, 46, 105, 109, 112, 79, 117, 116]))], .agg [.lit (.int .i64 10), .iface "func" (.lit (.string [40, 42, 119, 105, 116, 116, 105, 110, 103, 47, 110, 97, 116, 117, 114, 97, 108, 46, 99, 104, 101, 99, 107, 101, 114, 41, 46, 110, 111, 116, 73, 110]))], .agg [.lit (.int .i64 11), .iface "func" (.lit (.string [40, 42, 119, 105, 116, 116, 105, 110, 103, 47, 110, 97, 116, 117, 114, 97, 108, 46, 99, 104, 101, 99, 107, 101, 114, 41, 46, 110, 111, 116, 79, 117, 116]))], .agg [.lit (.int .i64 12), .iface "func" (.lit (.string [40, 42, 119, 105, 116, 116, 105, 110, 103, 47, 110, 97, 116, 117, 114, 97, 108, 46, 99, 104, 101, 99, 107, 101, 114, 41, 46, 97, 98, 115, 117, 114, 100]))], .agg [.lit (.int .i64 13), .iface "func" (.lit (.string [40, 42, 119, 105, 116, 116, 105, 110, 103, 47, 110, 97, 116, 117, 114, 97, 108, 46, 99, 104, 101, 99, 107, 101, 114, 41, 46, 102, 114, 111, 109, 70, 97, 108, 115, 101]))], .agg [.lit (.int .i64 14), .iface "func" (.lit (.string [40, 42, 119, 105, 116, 116, 105, 110, 103, 47, 110, 97, 116, 117, 114, 97, 108, 46, 99, 104, 101, 99, 107, 101, 114, 41, 46, 105, 115, 84, 114, 117, 101]))], .agg [.lit (.int .i64 15), .iface "func" (.lit (.string [40, 42, 119, 105, 116, 116, 105, 110, 103, 47, 110, 97, 116, 117, 114, 97, 108, 46, 99, 104, 101, 99, 107, 101, 114, 41, 46, 105, 102, 102]))], .agg [.lit (.int .i64 16), .iface "func" (.lit (.string [40, 42, 119, 105, 116, 116, 105, 110, 103, 47, 110, 97, 116, 117, 114, 97, 108, 46, 99, 104, 101, 99, 107, 101, 114, 41, 46, 107, 110, 111, 119, 73, 110]))], .agg [.lit (.int .i64 17), .iface "func" (.lit (.string [40, 42, 119, 105, 116, 116, 105, 110, 103, 47, 110, 97, 116, 117, 114, 97, 108, 46, 99, 104, 101, 99, 107, 101, 114, 41, 46, 105, 109, 112, 111, 114, 116, 101, 100]))], .agg [.lit (.int .i64 18), .iface "func" (.lit (.string [40, 42, 119, 105, 116, 116, 105, 110, 103, 47, 110, 97, 116, 117, 114, 97, 108, 46, 99, 104, 101, 99, 107, 101, 114, 41, 46, 107, 110, 111, 119, 84]))], .agg [.lit (.int .i64 19), .iface "func" (.lit (.string [40, 42, 119, 105, 116, 116, 105, 110, 103, 47, 110, 97, 116, 117, 114, 97, 108, 46, 99, 104, 101, 99, 107, 101, 114, 41, 46, 100, 117, 97, 108]))], .agg [.lit (.int .i64 20), .iface "func" (.lit (.string [40, 42, 119, 105, 116, 116, 105, 110, 103, 47, 110, 97, 116, 117, 114, 97, 108, 46, 99, 104, 101, 99, 107, 101, 114, 41, 46, 115, 101, 114, 105, 97, 108]))]])

/-- 'wittinglaw50.NaturalChecks': WHATEVER THE INPUT: true; the input reads as it did. -/
def naturalChecksSpec : ChangeSpec := { name := "naturalChecks", fn := fun _ => fun
  | [d] => { results := [.lit (.bool true)], args := [d] }
  | _ => none }
def naturalChecksRow : OpenClaim := { program := "ytipnbfbakohcaaadoor", sum := "21712468cc96ecf004186b5505bba515dc1bc3776ce5026f20e50c05f058dd14", func := "witting/wittinglaw50.NaturalChecks", spec := "naturalChecks", unfollowed := true, recurses := true, named := ["witting/natural.table"], plainKeys := false, apart := false, laid := [("witting/natural.table", laid_witting_natural_table)] }
def NaturalChecksSaid : Prop := naturalChecksRow.holds Tryd.pinned (OpenSpec.ofChange naturalChecksSpec)

/-- ITS FALSE NEIGHBOUR: 'it returns false'. Refute it at one input. -/
def naturalChecksWrong : ChangeSpec := { name := "naturalChecks", fn := fun _ => fun
  | [d] => { results := [.lit (.bool false)], args := [d] }
  | _ => none }
def NaturalChecksWrongFalsely : Prop := naturalChecksRow.holds Tryd.pinned (OpenSpec.ofChange naturalChecksWrong)

/-- 'wittinglaw50.NaturalTheorems': WHATEVER THE INPUT: true; the input reads as it did. -/
def naturalTheoremsSpec : ChangeSpec := { name := "naturalTheorems", fn := fun _ => fun
  | [d] => { results := [.lit (.bool true)], args := [d] }
  | _ => none }
def naturalTheoremsRow : OpenClaim := { program := "ytipnbfbakohcaaadoor", sum := "21712468cc96ecf004186b5505bba515dc1bc3776ce5026f20e50c05f058dd14", func := "witting/wittinglaw50.NaturalTheorems", spec := "naturalTheorems", unfollowed := true, recurses := true, named := ["witting/natural.table"], plainKeys := false, apart := false, laid := [("witting/natural.table", laid_witting_natural_table)] }
def NaturalTheoremsSaid : Prop := naturalTheoremsRow.holds Tryd.pinned (OpenSpec.ofChange naturalTheoremsSpec)

/-- ITS FALSE NEIGHBOUR: 'it returns false'. Refute it at one input. -/
def naturalTheoremsWrong : ChangeSpec := { name := "naturalTheorems", fn := fun _ => fun
  | [d] => { results := [.lit (.bool false)], args := [d] }
  | _ => none }
def NaturalTheoremsWrongFalsely : Prop := naturalTheoremsRow.holds Tryd.pinned (OpenSpec.ofChange naturalTheoremsWrong)

/-- 'wittinglaw50.NaturalLogics': WHATEVER THE INPUT: true; the input reads as it did. -/
def naturalLogicsSpec : ChangeSpec := { name := "naturalLogics", fn := fun _ => fun
  | [d] => { results := [.lit (.bool true)], args := [d] }
  | _ => none }
def naturalLogicsRow : OpenClaim := { program := "ytipnbfbakohcaaadoor", sum := "21712468cc96ecf004186b5505bba515dc1bc3776ce5026f20e50c05f058dd14", func := "witting/wittinglaw50.NaturalLogics", spec := "naturalLogics", unfollowed := true, recurses := true, named := ["witting/natural.table"], plainKeys := false, apart := false, laid := [("witting/natural.table", laid_witting_natural_table)] }
def NaturalLogicsSaid : Prop := naturalLogicsRow.holds Tryd.pinned (OpenSpec.ofChange naturalLogicsSpec)

/-- ITS FALSE NEIGHBOUR: 'it returns false'. Refute it at one input. -/
def naturalLogicsWrong : ChangeSpec := { name := "naturalLogics", fn := fun _ => fun
  | [d] => { results := [.lit (.bool false)], args := [d] }
  | _ => none }
def NaturalLogicsWrongFalsely : Prop := naturalLogicsRow.holds Tryd.pinned (OpenSpec.ofChange naturalLogicsWrong)

/-- 'wittinglaw50.NaturalAxioms': WHATEVER THE INPUT: true; the input reads as it did. -/
def naturalAxiomsSpec : ChangeSpec := { name := "naturalAxioms", fn := fun _ => fun
  | [d1, d2, d3] => { results := [.lit (.bool true)], args := [d1, d2, d3] }
  | _ => none }
def naturalAxiomsRow : OpenClaim := { program := "ytipnbfbakohcaaadoor", sum := "21712468cc96ecf004186b5505bba515dc1bc3776ce5026f20e50c05f058dd14", func := "witting/wittinglaw50.NaturalAxioms", spec := "naturalAxioms", unfollowed := true, recurses := true, named := ["witting/natural.table"], plainKeys := false, apart := false, laid := [("witting/natural.table", laid_witting_natural_table)] }
def NaturalAxiomsSaid : Prop := naturalAxiomsRow.holds Tryd.pinned (OpenSpec.ofChange naturalAxiomsSpec)

/-- ITS FALSE NEIGHBOUR: 'it returns false'. Refute it at one input. -/
def naturalAxiomsWrong : ChangeSpec := { name := "naturalAxioms", fn := fun _ => fun
  | [d1, d2, d3] => { results := [.lit (.bool false)], args := [d1, d2, d3] }
  | _ => none }
def NaturalAxiomsWrongFalsely : Prop := naturalAxiomsRow.holds Tryd.pinned (OpenSpec.ofChange naturalAxiomsWrong)

/- THE SECOND FORM. 'bulk': how many values and letters a reading holds, each counted each time it is reached (what is shared counts as often as it is met; a slice's spare places count too). A statement '..UptoSaid' is the law's where the arguments, and the package variables that the reading takes, are together of bulk at most 1048576: NARROWER than '..Said'. Prove '..Said' where nothing that the law and all that it calls make is longer than what came in: it says more and counts as full. Else prove '..UptoSaid'. A law counts once. -/
mutual
def uptoBulk {H : Type} : DataW H → Nat
  | .lit (.string bytes) => bytes.length + 1
  | .lit _ => 1
  | .nil => 1
  | .ptr d => uptoBulk d + 1
  | .slice elems spare => uptoBulkAll elems + uptoBulkAll spare + 1
  | .agg parts => uptoBulkAll parts + 1
  | .iface _ d => uptoBulk d + 1
  | .map entries => uptoBulkEntries entries + 1
  | .held _ => 1
def uptoBulkAll {H : Type} : List (DataW H) → Nat
  | [] => 0
  | d :: r => uptoBulk d + uptoBulkAll r
def uptoBulkEntries {H : Type} : List (Lit × DataW H) → Nat
  | [] => 0
  | x :: r => uptoBulkEntry x + uptoBulkEntries r
def uptoBulkEntry {H : Type} : Lit × DataW H → Nat
  | (.string bytes, d) => bytes.length + uptoBulk d + 1
  | (_, d) => uptoBulk d + 1
 end
def uptoSmall : (H : Type) → List (DataW H) → Bool := fun _ ds => decide (uptoBulkAll ds ≤ 1048576)
def OpenSpec.upto (s : _root_.Go.ChangeSpec) : _root_.Go.OpenSpec := { _root_.Go.OpenSpec.ofChange s with cond := some uptoSmall }

/-- 'wittinglaw50.NaturalChecks', WHERE WHAT IT READS IS OF BULK AT MOST 1048576: true; the input reads as it did. -/
def naturalChecksUptoRow : OpenClaim := { program := "ytipnbfbakohcaaadoor", sum := "21712468cc96ecf004186b5505bba515dc1bc3776ce5026f20e50c05f058dd14", func := "witting/wittinglaw50.NaturalChecks", spec := "naturalChecks", unfollowed := true, recurses := true, named := ["witting/natural.table"], plainKeys := false, apart := false, laid := [("witting/natural.table", laid_witting_natural_table)], narrowed := true }
def NaturalChecksUptoSaid : Prop := naturalChecksUptoRow.holds Tryd.pinned (OpenSpec.upto naturalChecksSpec)

/-- 'wittinglaw50.NaturalTheorems', WHERE WHAT IT READS IS OF BULK AT MOST 1048576: true; the input reads as it did. -/
def naturalTheoremsUptoRow : OpenClaim := { program := "ytipnbfbakohcaaadoor", sum := "21712468cc96ecf004186b5505bba515dc1bc3776ce5026f20e50c05f058dd14", func := "witting/wittinglaw50.NaturalTheorems", spec := "naturalTheorems", unfollowed := true, recurses := true, named := ["witting/natural.table"], plainKeys := false, apart := false, laid := [("witting/natural.table", laid_witting_natural_table)], narrowed := true }
def NaturalTheoremsUptoSaid : Prop := naturalTheoremsUptoRow.holds Tryd.pinned (OpenSpec.upto naturalTheoremsSpec)

/-- 'wittinglaw50.NaturalLogics', WHERE WHAT IT READS IS OF BULK AT MOST 1048576: true; the input reads as it did. -/
def naturalLogicsUptoRow : OpenClaim := { program := "ytipnbfbakohcaaadoor", sum := "21712468cc96ecf004186b5505bba515dc1bc3776ce5026f20e50c05f058dd14", func := "witting/wittinglaw50.NaturalLogics", spec := "naturalLogics", unfollowed := true, recurses := true, named := ["witting/natural.table"], plainKeys := false, apart := false, laid := [("witting/natural.table", laid_witting_natural_table)], narrowed := true }
def NaturalLogicsUptoSaid : Prop := naturalLogicsUptoRow.holds Tryd.pinned (OpenSpec.upto naturalLogicsSpec)

/-- 'wittinglaw50.NaturalAxioms', WHERE WHAT IT READS IS OF BULK AT MOST 1048576: true; the input reads as it did. -/
def naturalAxiomsUptoRow : OpenClaim := { program := "ytipnbfbakohcaaadoor", sum := "21712468cc96ecf004186b5505bba515dc1bc3776ce5026f20e50c05f058dd14", func := "witting/wittinglaw50.NaturalAxioms", spec := "naturalAxioms", unfollowed := true, recurses := true, named := ["witting/natural.table"], plainKeys := false, apart := false, laid := [("witting/natural.table", laid_witting_natural_table)], narrowed := true }
def NaturalAxiomsUptoSaid : Prop := naturalAxiomsUptoRow.holds Tryd.pinned (OpenSpec.upto naturalAxiomsSpec)

end Rows
end Go.Proofs.YtipnbfbakohcaaaDoor
