/-
  No cell of these rows narrows 'for every input' (looked for: loops, veiled, ifaces, maps, wideKeys, modest, calm, conditions, laid).
  DERIVED. THE GIVEN ROWS OF THIS SEAT. 4 by the template 'for every input the law returns true; each argument reads behind the call as it read before'; 0 by the template 'total and deterministic' (their statements: YtjonmmgpnfgomaaTotals.lean).
  GIVEN WITH THE SEED: the statements are not yours to turn. If you find one false, say at which input.
  Laid BY PROGRAM, IN A SANDBOX (cutbox-rows.mjs): the forced cells as the released guide's own fill.sh prints them over the translation 0ccc58d75d0bdf19… (all of the seat's roots in one cut). By AI agents, Wed Nov 11 2026. No macro, syntax, notation, axiom, sorry.
-/
import Derived.Test.YtjonmmgpnfgomaaChecked
import GoSem.Claim
import GoSem.ClaimJoined
import GoSem.ClaimMapViews
import Derived.JoinedTies
import Derived.KernelRfl
namespace Go.Proofs.Ytjonmmgpnfgomaa
/- THE CELL 'sum', in the pinned program and in every row, IS THE sha256 OF THE DUMP (.gsa) THAT YtjonmmgpnfgomaaProg.lean LOADS. Nothing in Lean hashes anything: it is a label: what it is worth is what the hold of that sum in a sandbox is worth. -/
noncomputable def Try.pinned : Pinned := { name := "ytjonmmgpnfgomaa", sum := "0ccc58d75d0bdf198207910376bf2af295b991d3689ec044a9aac0623acb1ebf", checked := Try.checked }
namespace Rows
def none {H : Type} : Left H := { results := [], args := [] }

/-- 'wittinglaw47.TypesBase': WHATEVER THE INPUT: true; the input reads as it did. -/
def typesBaseSpec : ChangeSpec := { name := "typesBase", fn := fun _ => fun
  | [d] => { results := [.lit (.bool true)], args := [d] }
  | _ => none }
def typesBaseRow : OpenClaim := { program := "ytjonmmgpnfgomaa", sum := "0ccc58d75d0bdf198207910376bf2af295b991d3689ec044a9aac0623acb1ebf", func := "witting/wittinglaw47.TypesBase", spec := "typesBase", unfollowed := true, recurses := true, plainKeys := false, apart := false }
def TypesBaseSaid : Prop := typesBaseRow.holds Try.pinned (OpenSpec.ofChange typesBaseSpec)

/-- ITS FALSE NEIGHBOUR: 'it returns false'. Refute it at one input. -/
def typesBaseWrong : ChangeSpec := { name := "typesBase", fn := fun _ => fun
  | [d] => { results := [.lit (.bool false)], args := [d] }
  | _ => none }
def TypesBaseWrongFalsely : Prop := typesBaseRow.holds Try.pinned (OpenSpec.ofChange typesBaseWrong)

/-- 'wittinglaw47.TypesLogics': WHATEVER THE INPUT: true; the input reads as it did. -/
def typesLogicsSpec : ChangeSpec := { name := "typesLogics", fn := fun _ => fun
  | [d] => { results := [.lit (.bool true)], args := [d] }
  | _ => none }
def typesLogicsRow : OpenClaim := { program := "ytjonmmgpnfgomaa", sum := "0ccc58d75d0bdf198207910376bf2af295b991d3689ec044a9aac0623acb1ebf", func := "witting/wittinglaw47.TypesLogics", spec := "typesLogics", unfollowed := true, recurses := true, plainKeys := false, apart := false }
def TypesLogicsSaid : Prop := typesLogicsRow.holds Try.pinned (OpenSpec.ofChange typesLogicsSpec)

/-- ITS FALSE NEIGHBOUR: 'it returns false'. Refute it at one input. -/
def typesLogicsWrong : ChangeSpec := { name := "typesLogics", fn := fun _ => fun
  | [d] => { results := [.lit (.bool false)], args := [d] }
  | _ => none }
def TypesLogicsWrongFalsely : Prop := typesLogicsRow.holds Try.pinned (OpenSpec.ofChange typesLogicsWrong)

/-- 'wittinglaw47.TypesCommon': WHATEVER THE INPUT: true; the input reads as it did. -/
def typesCommonSpec : ChangeSpec := { name := "typesCommon", fn := fun _ => fun
  | [d1, d2, d3] => { results := [.lit (.bool true)], args := [d1, d2, d3] }
  | _ => none }
def typesCommonRow : OpenClaim := { program := "ytjonmmgpnfgomaa", sum := "0ccc58d75d0bdf198207910376bf2af295b991d3689ec044a9aac0623acb1ebf", func := "witting/wittinglaw47.TypesCommon", spec := "typesCommon", unfollowed := true, recurses := true, plainKeys := false, apart := false }
def TypesCommonSaid : Prop := typesCommonRow.holds Try.pinned (OpenSpec.ofChange typesCommonSpec)

/-- ITS FALSE NEIGHBOUR: 'it returns false'. Refute it at one input. -/
def typesCommonWrong : ChangeSpec := { name := "typesCommon", fn := fun _ => fun
  | [d1, d2, d3] => { results := [.lit (.bool false)], args := [d1, d2, d3] }
  | _ => none }
def TypesCommonWrongFalsely : Prop := typesCommonRow.holds Try.pinned (OpenSpec.ofChange typesCommonWrong)

/-- 'wittinglaw47.TypesDual': WHATEVER THE INPUT: true; the input reads as it did. -/
def typesDualSpec : ChangeSpec := { name := "typesDual", fn := fun _ => fun
  | [d1, d2, d3] => { results := [.lit (.bool true)], args := [d1, d2, d3] }
  | _ => none }
def typesDualRow : OpenClaim := { program := "ytjonmmgpnfgomaa", sum := "0ccc58d75d0bdf198207910376bf2af295b991d3689ec044a9aac0623acb1ebf", func := "witting/wittinglaw47.TypesDual", spec := "typesDual", unfollowed := true, recurses := true, plainKeys := false, apart := false }
def TypesDualSaid : Prop := typesDualRow.holds Try.pinned (OpenSpec.ofChange typesDualSpec)

/-- ITS FALSE NEIGHBOUR: 'it returns false'. Refute it at one input. -/
def typesDualWrong : ChangeSpec := { name := "typesDual", fn := fun _ => fun
  | [d1, d2, d3] => { results := [.lit (.bool false)], args := [d1, d2, d3] }
  | _ => none }
def TypesDualWrongFalsely : Prop := typesDualRow.holds Try.pinned (OpenSpec.ofChange typesDualWrong)

/- THE SECOND FORM. 'bulk': how many values and letters a reading holds, each counted each time it is reached (what is shared counts as often as it is met; a slice's spare places count too). A statement '..UptoSaid' is the law's where the arguments, and the package variables that the reading takes, are together of bulk at most 1048576: NARROWER than '..Said'. Prove '..Said' where nothing that the law and all that it calls make is longer than what came in: it says more and counts as full. Else prove '..UptoSaid'. A law counts once. -/
mutual
def uptoBulk {H : Type} : DataW H → Nat
  | .lit (.string bytes) => bytes.length + 1
  | .lit _ => 1
  | .nil => 1
  | .ptr d => uptoBulk d + 1
  | .slice elems spare => uptoBulkAll elems + uptoBulkAll spare + 1
  | .agg parts => uptoBulkAll parts + 1
  | .iface _ d => uptoBulk d + 1
  | .map entries => uptoBulkEntries entries + 1
  | .held _ => 1
def uptoBulkAll {H : Type} : List (DataW H) → Nat
  | [] => 0
  | d :: r => uptoBulk d + uptoBulkAll r
def uptoBulkEntries {H : Type} : List (Lit × DataW H) → Nat
  | [] => 0
  | x :: r => uptoBulkEntry x + uptoBulkEntries r
def uptoBulkEntry {H : Type} : Lit × DataW H → Nat
  | (.string bytes, d) => bytes.length + uptoBulk d + 1
  | (_, d) => uptoBulk d + 1
 end
def uptoSmall : (H : Type) → List (DataW H) → Bool := fun _ ds => decide (uptoBulkAll ds ≤ 1048576)
def OpenSpec.upto (s : _root_.Go.ChangeSpec) : _root_.Go.OpenSpec := { _root_.Go.OpenSpec.ofChange s with cond := some uptoSmall }

/-- 'wittinglaw47.TypesBase', WHERE WHAT IT READS IS OF BULK AT MOST 1048576: true; the input reads as it did. -/
def typesBaseUptoRow : OpenClaim := { program := "ytjonmmgpnfgomaa", sum := "0ccc58d75d0bdf198207910376bf2af295b991d3689ec044a9aac0623acb1ebf", func := "witting/wittinglaw47.TypesBase", spec := "typesBase", unfollowed := true, recurses := true, plainKeys := false, apart := false, narrowed := true }
def TypesBaseUptoSaid : Prop := typesBaseUptoRow.holds Try.pinned (OpenSpec.upto typesBaseSpec)

/-- 'wittinglaw47.TypesLogics', WHERE WHAT IT READS IS OF BULK AT MOST 1048576: true; the input reads as it did. -/
def typesLogicsUptoRow : OpenClaim := { program := "ytjonmmgpnfgomaa", sum := "0ccc58d75d0bdf198207910376bf2af295b991d3689ec044a9aac0623acb1ebf", func := "witting/wittinglaw47.TypesLogics", spec := "typesLogics", unfollowed := true, recurses := true, plainKeys := false, apart := false, narrowed := true }
def TypesLogicsUptoSaid : Prop := typesLogicsUptoRow.holds Try.pinned (OpenSpec.upto typesLogicsSpec)

/-- 'wittinglaw47.TypesCommon', WHERE WHAT IT READS IS OF BULK AT MOST 1048576: true; the input reads as it did. -/
def typesCommonUptoRow : OpenClaim := { program := "ytjonmmgpnfgomaa", sum := "0ccc58d75d0bdf198207910376bf2af295b991d3689ec044a9aac0623acb1ebf", func := "witting/wittinglaw47.TypesCommon", spec := "typesCommon", unfollowed := true, recurses := true, plainKeys := false, apart := false, narrowed := true }
def TypesCommonUptoSaid : Prop := typesCommonUptoRow.holds Try.pinned (OpenSpec.upto typesCommonSpec)

/-- 'wittinglaw47.TypesDual', WHERE WHAT IT READS IS OF BULK AT MOST 1048576: true; the input reads as it did. -/
def typesDualUptoRow : OpenClaim := { program := "ytjonmmgpnfgomaa", sum := "0ccc58d75d0bdf198207910376bf2af295b991d3689ec044a9aac0623acb1ebf", func := "witting/wittinglaw47.TypesDual", spec := "typesDual", unfollowed := true, recurses := true, plainKeys := false, apart := false, narrowed := true }
def TypesDualUptoSaid : Prop := typesDualUptoRow.holds Try.pinned (OpenSpec.upto typesDualSpec)

end Rows
end Go.Proofs.Ytjonmmgpnfgomaa
