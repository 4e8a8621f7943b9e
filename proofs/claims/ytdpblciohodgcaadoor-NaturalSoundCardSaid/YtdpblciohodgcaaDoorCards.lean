/-
  DERIVED. GIVEN WITH THE SEED: THE CARDS: each row of YtdpblciohodgcaaDoorRows.lean that lists a variable, with what it lists TIED to the program's text (the seventh form; the later family's looks); each row that meets fmt, with fmt's text TOLD by the authors' own Lean function (tested against real Go, not proved from fmt's source: count such statements apart). THE CARD IS WHAT COUNTS. Prove the row's statement (the work); the ties are given (YtdpblciohodgcaaDoorTie.lean); close each card by the builder's one call (the guide's Derived/Test/ToyasCard.lean, 'card_holds'). Laid BY PROGRAM, IN A SANDBOX (cutbox-door.mjs). By AI agents, Wed Nov 11 2026. No macro, syntax, notation, axiom, sorry.
-/
import Derived.Test.YtdpblciohodgcaaDoorRows
import GoSem.ClaimSeven
namespace Go.Proofs.YtdpblciohodgcaaDoor
namespace Rows

/-- THE TIED CARD OF 'wittinglaw50.NaturalSound'. -/
def naturalSoundCard : Claim7 := { stood := { row := naturalSoundRow, standIns := [], harness := (true, "a35b9b831340afff3efe12c78d2307e4f6b90c5980b335caa35845b241ff6790"), looks := false }, kinds := [], alts := [], laidByText := true, laidKinds := [.data, .funcs], laidTests := true, laidLooks := .later }
def NaturalSoundCardSaid : Prop := Claim7.holds Tryd.pinned (.plain (OpenSpec.ofChange naturalSoundSpec)) naturalSoundCard

/-- THE SECOND FORM's CARD OF 'wittinglaw50.NaturalSound'. -/
def naturalSoundUptoCard : Claim7 := { stood := { row := naturalSoundUptoRow, standIns := [], harness := (true, "a35b9b831340afff3efe12c78d2307e4f6b90c5980b335caa35845b241ff6790"), looks := false }, kinds := [], alts := [], laidByText := true, laidKinds := [.data, .funcs], laidTests := true, laidLooks := .later }
def NaturalSoundUptoCardSaid : Prop := Claim7.holds Tryd.pinned (.plain (OpenSpec.upto naturalSoundSpec)) naturalSoundUptoCard
end Rows
end Go.Proofs.YtdpblciohodgcaaDoor
