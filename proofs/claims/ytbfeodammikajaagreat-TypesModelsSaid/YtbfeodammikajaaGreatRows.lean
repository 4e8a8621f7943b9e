/-
  No cell of these rows narrows 'for every input' (looked for: loops, veiled, ifaces, maps, wideKeys, modest, calm, conditions, laid).
  DERIVED. THE GIVEN ROWS OF THIS SEAT. 4 by the template 'for every input the law returns true; each argument reads behind the call as it read before'; 0 by the template 'total and deterministic' (their statements: YtbfeodammikajaaGreatTotals.lean).
  GIVEN WITH THE SEED: the statements are not yours to turn. If you find one false, say at which input.
  Laid BY PROGRAM, IN A SANDBOX (cutbox-rows.mjs): the forced cells as the released guide's own fill.sh prints them over the translation 8f07c4794c7cf019… (all of the seat's roots in one cut). By AI agents, Wed Nov 11 2026. No macro, syntax, notation, axiom, sorry.
-/
import Derived.Test.YtbfeodammikajaaGreatChecked
import GoSem.Claim
import GoSem.ClaimJoined
import GoSem.ClaimMapViews
import Derived.JoinedTies
import Derived.KernelRfl
namespace Go.Proofs.YtbfeodammikajaaGreat
/- THE CELL 'sum', in the pinned program and in every row, IS THE sha256 OF THE DUMP (.gsa) THAT YtbfeodammikajaaGreatProg.lean LOADS. Nothing in Lean hashes anything: it is a label: what it is worth is what the hold of that sum in a sandbox is worth. -/
noncomputable def Tryz.pinned : Pinned := { name := "ytbfeodammikajaagreat", sum := "8f07c4794c7cf019f01f8cbda8cfe9e439aa70d5e7fb6d857e7df8075c3f96e4", checked := Tryz.checked }
namespace Rows
def none {H : Type} : Left H := { results := [], args := [] }

/-- 'wittinglaw47.TypesSatisfiable': WHATEVER THE INPUT: true; the input reads as it did. -/
def typesSatisfiableSpec : ChangeSpec := { name := "typesSatisfiable", fn := fun _ => fun
  | [d1, d2] => { results := [.lit (.bool true)], args := [d1, d2] }
  | _ => none }
def typesSatisfiableRow : OpenClaim := { program := "ytbfeodammikajaagreat", sum := "8f07c4794c7cf019f01f8cbda8cfe9e439aa70d5e7fb6d857e7df8075c3f96e4", func := "witting/wittinglaw47.TypesSatisfiable", spec := "typesSatisfiable", unfollowed := true, recurses := true, plainKeys := false, apart := false }
def TypesSatisfiableSaid : Prop := typesSatisfiableRow.holds Tryz.pinned (OpenSpec.ofChange typesSatisfiableSpec)

/-- ITS FALSE NEIGHBOUR: 'it returns false'. Refute it at one input. -/
def typesSatisfiableWrong : ChangeSpec := { name := "typesSatisfiable", fn := fun _ => fun
  | [d1, d2] => { results := [.lit (.bool false)], args := [d1, d2] }
  | _ => none }
def TypesSatisfiableWrongFalsely : Prop := typesSatisfiableRow.holds Tryz.pinned (OpenSpec.ofChange typesSatisfiableWrong)

/-- 'wittinglaw47.TypesChecks': WHATEVER THE INPUT: true; the input reads as it did. -/
def typesChecksSpec : ChangeSpec := { name := "typesChecks", fn := fun _ => fun
  | [d1, d2] => { results := [.lit (.bool true)], args := [d1, d2] }
  | _ => none }
def typesChecksRow : OpenClaim := { program := "ytbfeodammikajaagreat", sum := "8f07c4794c7cf019f01f8cbda8cfe9e439aa70d5e7fb6d857e7df8075c3f96e4", func := "witting/wittinglaw47.TypesChecks", spec := "typesChecks", unfollowed := true, recurses := true, plainKeys := false, apart := false }
def TypesChecksSaid : Prop := typesChecksRow.holds Tryz.pinned (OpenSpec.ofChange typesChecksSpec)

/-- ITS FALSE NEIGHBOUR: 'it returns false'. Refute it at one input. -/
def typesChecksWrong : ChangeSpec := { name := "typesChecks", fn := fun _ => fun
  | [d1, d2] => { results := [.lit (.bool false)], args := [d1, d2] }
  | _ => none }
def TypesChecksWrongFalsely : Prop := typesChecksRow.holds Tryz.pinned (OpenSpec.ofChange typesChecksWrong)

/-- 'wittinglaw47.TypesSound': WHATEVER THE INPUT: true; the input reads as it did. -/
def typesSoundSpec : ChangeSpec := { name := "typesSound", fn := fun _ => fun
  | [d1, d2, d3] => { results := [.lit (.bool true)], args := [d1, d2, d3] }
  | _ => none }
def typesSoundRow : OpenClaim := { program := "ytbfeodammikajaagreat", sum := "8f07c4794c7cf019f01f8cbda8cfe9e439aa70d5e7fb6d857e7df8075c3f96e4", func := "witting/wittinglaw47.TypesSound", spec := "typesSound", unfollowed := true, recurses := true, plainKeys := false, apart := false }
def TypesSoundSaid : Prop := typesSoundRow.holds Tryz.pinned (OpenSpec.ofChange typesSoundSpec)

/-- ITS FALSE NEIGHBOUR: 'it returns false'. Refute it at one input. -/
def typesSoundWrong : ChangeSpec := { name := "typesSound", fn := fun _ => fun
  | [d1, d2, d3] => { results := [.lit (.bool false)], args := [d1, d2, d3] }
  | _ => none }
def TypesSoundWrongFalsely : Prop := typesSoundRow.holds Tryz.pinned (OpenSpec.ofChange typesSoundWrong)

/-- 'wittinglaw47.TypesModels': WHATEVER THE INPUT: true; the input reads as it did. -/
def typesModelsSpec : ChangeSpec := { name := "typesModels", fn := fun _ => fun
  | [d1, d2] => { results := [.lit (.bool true)], args := [d1, d2] }
  | _ => none }
def typesModelsRow : OpenClaim := { program := "ytbfeodammikajaagreat", sum := "8f07c4794c7cf019f01f8cbda8cfe9e439aa70d5e7fb6d857e7df8075c3f96e4", func := "witting/wittinglaw47.TypesModels", spec := "typesModels", unfollowed := true, recurses := true, plainKeys := false, apart := false }
def TypesModelsSaid : Prop := typesModelsRow.holds Tryz.pinned (OpenSpec.ofChange typesModelsSpec)

/-- ITS FALSE NEIGHBOUR: 'it returns false'. Refute it at one input. -/
def typesModelsWrong : ChangeSpec := { name := "typesModels", fn := fun _ => fun
  | [d1, d2] => { results := [.lit (.bool false)], args := [d1, d2] }
  | _ => none }
def TypesModelsWrongFalsely : Prop := typesModelsRow.holds Tryz.pinned (OpenSpec.ofChange typesModelsWrong)

/- THE SECOND FORM. 'bulk': how many values and letters a reading holds, each counted each time it is reached (what is shared counts as often as it is met; a slice's spare places count too). A statement '..UptoSaid' is the law's where the arguments, and the package variables that the reading takes, are together of bulk at most 1048576: NARROWER than '..Said'. Prove '..Said' where nothing that the law and all that it calls make is longer than what came in: it says more and counts as full. Else prove '..UptoSaid'. A law counts once. -/
mutual
def uptoBulk {H : Type} : DataW H → Nat
  | .lit (.string bytes) => bytes.length + 1
  | .lit _ => 1
  | .nil => 1
  | .ptr d => uptoBulk d + 1
  | .slice elems spare => uptoBulkAll elems + uptoBulkAll spare + 1
  | .agg parts => uptoBulkAll parts + 1
  | .iface _ d => uptoBulk d + 1
  | .map entries => uptoBulkEntries entries + 1
  | .held _ => 1
def uptoBulkAll {H : Type} : List (DataW H) → Nat
  | [] => 0
  | d :: r => uptoBulk d + uptoBulkAll r
def uptoBulkEntries {H : Type} : List (Lit × DataW H) → Nat
  | [] => 0
  | x :: r => uptoBulkEntry x + uptoBulkEntries r
def uptoBulkEntry {H : Type} : Lit × DataW H → Nat
  | (.string bytes, d) => bytes.length + uptoBulk d + 1
  | (_, d) => uptoBulk d + 1
 end
def uptoSmall : (H : Type) → List (DataW H) → Bool := fun _ ds => decide (uptoBulkAll ds ≤ 1048576)
def OpenSpec.upto (s : _root_.Go.ChangeSpec) : _root_.Go.OpenSpec := { _root_.Go.OpenSpec.ofChange s with cond := some uptoSmall }

/-- 'wittinglaw47.TypesSatisfiable', WHERE WHAT IT READS IS OF BULK AT MOST 1048576: true; the input reads as it did. -/
def typesSatisfiableUptoRow : OpenClaim := { program := "ytbfeodammikajaagreat", sum := "8f07c4794c7cf019f01f8cbda8cfe9e439aa70d5e7fb6d857e7df8075c3f96e4", func := "witting/wittinglaw47.TypesSatisfiable", spec := "typesSatisfiable", unfollowed := true, recurses := true, plainKeys := false, apart := false, narrowed := true }
def TypesSatisfiableUptoSaid : Prop := typesSatisfiableUptoRow.holds Tryz.pinned (OpenSpec.upto typesSatisfiableSpec)

/-- 'wittinglaw47.TypesChecks', WHERE WHAT IT READS IS OF BULK AT MOST 1048576: true; the input reads as it did. -/
def typesChecksUptoRow : OpenClaim := { program := "ytbfeodammikajaagreat", sum := "8f07c4794c7cf019f01f8cbda8cfe9e439aa70d5e7fb6d857e7df8075c3f96e4", func := "witting/wittinglaw47.TypesChecks", spec := "typesChecks", unfollowed := true, recurses := true, plainKeys := false, apart := false, narrowed := true }
def TypesChecksUptoSaid : Prop := typesChecksUptoRow.holds Tryz.pinned (OpenSpec.upto typesChecksSpec)

/-- 'wittinglaw47.TypesSound', WHERE WHAT IT READS IS OF BULK AT MOST 1048576: true; the input reads as it did. -/
def typesSoundUptoRow : OpenClaim := { program := "ytbfeodammikajaagreat", sum := "8f07c4794c7cf019f01f8cbda8cfe9e439aa70d5e7fb6d857e7df8075c3f96e4", func := "witting/wittinglaw47.TypesSound", spec := "typesSound", unfollowed := true, recurses := true, plainKeys := false, apart := false, narrowed := true }
def TypesSoundUptoSaid : Prop := typesSoundUptoRow.holds Tryz.pinned (OpenSpec.upto typesSoundSpec)

/-- 'wittinglaw47.TypesModels', WHERE WHAT IT READS IS OF BULK AT MOST 1048576: true; the input reads as it did. -/
def typesModelsUptoRow : OpenClaim := { program := "ytbfeodammikajaagreat", sum := "8f07c4794c7cf019f01f8cbda8cfe9e439aa70d5e7fb6d857e7df8075c3f96e4", func := "witting/wittinglaw47.TypesModels", spec := "typesModels", unfollowed := true, recurses := true, plainKeys := false, apart := false, narrowed := true }
def TypesModelsUptoSaid : Prop := typesModelsUptoRow.holds Tryz.pinned (OpenSpec.upto typesModelsSpec)

end Rows
end Go.Proofs.YtbfeodammikajaaGreat
