/-
  DERIVED. GIVEN WITH THE SEED: THE CARDS: each row of YtdpblciohodgcaaGreatDoorRows.lean that lists a variable, with what it lists TIED to the program's text (the seventh form; the later family's looks); each row that meets fmt, with fmt's text TOLD by the authors' own Lean function (tested against real Go, not proved from fmt's source: count such statements apart). THE CARD IS WHAT COUNTS. Prove the row's statement (the work); the ties are given (YtdpblciohodgcaaGreatDoorTie.lean); close each card by the builder's one call (the guide's Derived/Test/ToyasCard.lean, 'card_holds'). Laid BY PROGRAM, IN A SANDBOX (cutbox-door.mjs). By AI agents, Wed Nov 11 2026. No macro, syntax, notation, axiom, sorry.
-/
import Derived.Test.YtdpblciohodgcaaGreatDoorRows
import GoSem.ClaimSeven
namespace Go.Proofs.YtdpblciohodgcaaGreatDoor
namespace Rows

/-- THE TIED CARD OF 'wittinglaw46.SequentSound'. -/
def sequentSoundCard : Claim7 := { stood := { row := sequentSoundRow, standIns := [], harness := (true, "be8920aa9afc97a996f959841a5779bf7997d50ffd8e7214983d2e1bb1338150"), looks := false }, kinds := [], alts := [], laidByText := true, laidKinds := [.data], laidTests := true, laidLooks := .later }
def SequentSoundCardSaid : Prop := Claim7.holds Tryz.pinned (.plain (OpenSpec.ofChange sequentSoundSpec)) sequentSoundCard

/-- THE TIED CARD OF 'wittinglaw46.SequentValid'. -/
def sequentValidCard : Claim7 := { stood := { row := sequentValidRow, standIns := [], harness := (true, "be8920aa9afc97a996f959841a5779bf7997d50ffd8e7214983d2e1bb1338150"), looks := false }, kinds := [], alts := [], laidByText := true, laidKinds := [.data], laidTests := true, laidLooks := .later }
def SequentValidCardSaid : Prop := Claim7.holds Tryz.pinned (.plain (OpenSpec.ofChange sequentValidSpec)) sequentValidCard

/-- THE SECOND FORM's CARD OF 'wittinglaw46.SequentSound'. -/
def sequentSoundUptoCard : Claim7 := { stood := { row := sequentSoundUptoRow, standIns := [], harness := (true, "be8920aa9afc97a996f959841a5779bf7997d50ffd8e7214983d2e1bb1338150"), looks := false }, kinds := [], alts := [], laidByText := true, laidKinds := [.data], laidTests := true, laidLooks := .later }
def SequentSoundUptoCardSaid : Prop := Claim7.holds Tryz.pinned (.plain (OpenSpec.upto sequentSoundSpec)) sequentSoundUptoCard

/-- THE SECOND FORM's CARD OF 'wittinglaw46.SequentValid'. -/
def sequentValidUptoCard : Claim7 := { stood := { row := sequentValidUptoRow, standIns := [], harness := (true, "be8920aa9afc97a996f959841a5779bf7997d50ffd8e7214983d2e1bb1338150"), looks := false }, kinds := [], alts := [], laidByText := true, laidKinds := [.data], laidTests := true, laidLooks := .later }
def SequentValidUptoCardSaid : Prop := Claim7.holds Tryz.pinned (.plain (OpenSpec.upto sequentValidSpec)) sequentValidUptoCard
end Rows
end Go.Proofs.YtdpblciohodgcaaGreatDoor
