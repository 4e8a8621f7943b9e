/-
  DERIVED. GIVEN WITH THE SEED: THE CARDS: each row of YtohoddkcpfamlaaDoorRows.lean that lists a variable, with what it lists TIED to the program's text (the seventh form; the later family's looks); each row that meets fmt, with fmt's text TOLD by the authors' own Lean function (tested against real Go, not proved from fmt's source: count such statements apart). THE CARD IS WHAT COUNTS. Prove the row's statement (the work); the ties are given (YtohoddkcpfamlaaDoorTie.lean); close each card by the builder's one call (the guide's Derived/Test/ToyasCard.lean, 'card_holds'). Laid BY PROGRAM, IN A SANDBOX (cutbox-door.mjs). By AI agents, Wed Nov 11 2026. No macro, syntax, notation, axiom, sorry.
-/
import Derived.Test.YtohoddkcpfamlaaDoorRows
import GoSem.ClaimSeven
namespace Go.Proofs.YtohoddkcpfamlaaDoor
namespace Rows

/-- THE TIED CARD OF 'wittinglaw50.NaturalSubstitutes'. -/
def naturalSubstitutesCard : Claim7 := { stood := { row := naturalSubstitutesRow, standIns := [], harness := (true, "0181d0fbe88decaeb63afca998737763f08fffe5efb72870df87de0c49267a42"), looks := false }, kinds := [], alts := [], laidByText := true, laidKinds := [.funcs], laidTests := true, laidLooks := .later }
def NaturalSubstitutesCardSaid : Prop := Claim7.holds Tryd.pinned (.plain (OpenSpec.ofChange naturalSubstitutesSpec)) naturalSubstitutesCard

/-- THE SECOND FORM's CARD OF 'wittinglaw50.NaturalSubstitutes'. -/
def naturalSubstitutesUptoCard : Claim7 := { stood := { row := naturalSubstitutesUptoRow, standIns := [], harness := (true, "0181d0fbe88decaeb63afca998737763f08fffe5efb72870df87de0c49267a42"), looks := false }, kinds := [], alts := [], laidByText := true, laidKinds := [.funcs], laidTests := true, laidLooks := .later }
def NaturalSubstitutesUptoCardSaid : Prop := Claim7.holds Tryd.pinned (.plain (OpenSpec.upto naturalSubstitutesSpec)) naturalSubstitutesUptoCard
end Rows
end Go.Proofs.YtohoddkcpfamlaaDoor
