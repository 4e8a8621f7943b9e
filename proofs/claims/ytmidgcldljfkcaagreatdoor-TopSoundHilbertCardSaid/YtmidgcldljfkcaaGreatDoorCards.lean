/-
  DERIVED. GIVEN WITH THE SEED: THE CARDS: each row of YtmidgcldljfkcaaGreatDoorRows.lean that lists a variable, with what it lists TIED to the program's text (the seventh form; the later family's looks); each row that meets fmt, with fmt's text TOLD by the authors' own Lean function (tested against real Go, not proved from fmt's source: count such statements apart). THE CARD IS WHAT COUNTS. Prove the row's statement (the work); the ties are given (YtmidgcldljfkcaaGreatDoorTie.lean); close each card by the builder's one call (the guide's Derived/Test/ToyasCard.lean, 'card_holds'). Laid BY PROGRAM, IN A SANDBOX (cutbox-door.mjs). By AI agents, Wed Nov 11 2026. No macro, syntax, notation, axiom, sorry.
-/
import Derived.Test.YtmidgcldljfkcaaGreatDoorRows
import GoSem.ClaimSeven
namespace Go.Proofs.YtmidgcldljfkcaaGreatDoor
namespace Rows

/-- THE TIED CARD OF 'wittingtop.TopSoundNatural'. -/
def topSoundNaturalCard : Claim7 := { stood := { row := topSoundNaturalRow, standIns := [], harness := (true, "ebc24ca455325dd2144b008b17199314182f986e1a39b4f9e677141dbac0721f"), looks := false }, kinds := [], alts := [], laidByText := true, laidKinds := [.data, .funcs, .funcs], laidTests := true, laidLooks := .later }
def TopSoundNaturalCardSaid : Prop := Claim7.holds Tryz.pinned (.plain (OpenSpec.ofChange topSoundNaturalSpec)) topSoundNaturalCard

/-- THE TIED CARD OF 'wittingtop.TopSoundRefutations'. -/
def topSoundRefutationsCard : Claim7 := { stood := { row := topSoundRefutationsRow, standIns := [], harness := (true, "ebc24ca455325dd2144b008b17199314182f986e1a39b4f9e677141dbac0721f"), looks := false }, kinds := [], alts := [], laidByText := true, laidKinds := [.data, .funcs, .funcs], laidTests := true, laidLooks := .later }
def TopSoundRefutationsCardSaid : Prop := Claim7.holds Tryz.pinned (.plain (OpenSpec.ofChange topSoundRefutationsSpec)) topSoundRefutationsCard

/-- THE TIED CARD OF 'wittingtop.TopSoundHilbert'. -/
def topSoundHilbertCard : Claim7 := { stood := { row := topSoundHilbertRow, standIns := [], harness := (true, "ebc24ca455325dd2144b008b17199314182f986e1a39b4f9e677141dbac0721f"), looks := false }, kinds := [], alts := [], laidByText := true, laidKinds := [.data, .funcs, .funcs], laidTests := true, laidLooks := .later }
def TopSoundHilbertCardSaid : Prop := Claim7.holds Tryz.pinned (.plain (OpenSpec.ofChange topSoundHilbertSpec)) topSoundHilbertCard

/-- THE SECOND FORM's CARD OF 'wittingtop.TopSoundNatural'. -/
def topSoundNaturalUptoCard : Claim7 := { stood := { row := topSoundNaturalUptoRow, standIns := [], harness := (true, "ebc24ca455325dd2144b008b17199314182f986e1a39b4f9e677141dbac0721f"), looks := false }, kinds := [], alts := [], laidByText := true, laidKinds := [.data, .funcs, .funcs], laidTests := true, laidLooks := .later }
def TopSoundNaturalUptoCardSaid : Prop := Claim7.holds Tryz.pinned (.plain (OpenSpec.upto topSoundNaturalSpec)) topSoundNaturalUptoCard

/-- THE SECOND FORM's CARD OF 'wittingtop.TopSoundRefutations'. -/
def topSoundRefutationsUptoCard : Claim7 := { stood := { row := topSoundRefutationsUptoRow, standIns := [], harness := (true, "ebc24ca455325dd2144b008b17199314182f986e1a39b4f9e677141dbac0721f"), looks := false }, kinds := [], alts := [], laidByText := true, laidKinds := [.data, .funcs, .funcs], laidTests := true, laidLooks := .later }
def TopSoundRefutationsUptoCardSaid : Prop := Claim7.holds Tryz.pinned (.plain (OpenSpec.upto topSoundRefutationsSpec)) topSoundRefutationsUptoCard

/-- THE SECOND FORM's CARD OF 'wittingtop.TopSoundHilbert'. -/
def topSoundHilbertUptoCard : Claim7 := { stood := { row := topSoundHilbertUptoRow, standIns := [], harness := (true, "ebc24ca455325dd2144b008b17199314182f986e1a39b4f9e677141dbac0721f"), looks := false }, kinds := [], alts := [], laidByText := true, laidKinds := [.data, .funcs, .funcs], laidTests := true, laidLooks := .later }
def TopSoundHilbertUptoCardSaid : Prop := Claim7.holds Tryz.pinned (.plain (OpenSpec.upto topSoundHilbertSpec)) topSoundHilbertUptoCard
end Rows
end Go.Proofs.YtmidgcldljfkcaaGreatDoor
