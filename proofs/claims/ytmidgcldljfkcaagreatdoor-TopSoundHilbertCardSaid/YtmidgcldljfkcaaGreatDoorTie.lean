/-
  DERIVED. GIVEN WITH THE SEED: THE PROGRAM's TIES (one call each: nine closed facts by the kernel) AND EACH ROW's TIE, after the 31st guide's Derived/Test/Toyas{Tie, Card}.lean. No idea stands in it: it is a product of the set-up. Laid BY PROGRAM, IN A SANDBOX (cutbox-door.mjs). By AI agents, Wed Nov 11 2026. No macro, syntax, notation, axiom, sorry.
-/
import Derived.Test.YtmidgcldljfkcaaGreatDoorRows
import Derived.LaidByTextLater
import Derived.SevenTiedAt
import Derived.LaidSub
import Derived.LaidOnce
namespace Go.Proofs.YtmidgcldljfkcaaGreatDoor
open Go
set_option maxRecDepth 100000
theorem seatTie1 : Tryz.prog.laidByTextLater [("math/bits.deBruijn64tab", Rows.laid_math_bits_deBruijn64tab), ("witting/hilbert.axioms", Rows.laid_witting_hilbert_axioms), ("witting/natural.table", Rows.laid_witting_natural_table)] [.data, .funcs, .funcs] true :=
  Program.laidByTextLater_by_one 42 8 65 (by kernel_rfl) (by kernel_rfl) (by kernel_rfl) (by kernel_rfl) (by kernel_rfl) (by kernel_rfl) (fun _ _ => by kernel_rfl)
theorem noOwnUnsafe : Tryz.pinned.checked.prog.headLifts.contains "ownunsafe" = false := by kernel_rfl
theorem tie : Tryz.prog.laidByTextLater [("math/bits.deBruijn64tab", Rows.laid_math_bits_deBruijn64tab), ("witting/hilbert.axioms", Rows.laid_witting_hilbert_axioms), ("witting/natural.table", Rows.laid_witting_natural_table)] [.data, .funcs, .funcs] true :=
  Program.laidByTextLater.sub seatTie1 ["math/bits.deBruijn64tab", "witting/hilbert.axioms", "witting/natural.table"] (by kernel_rfl) (by kernel_rfl)
theorem topSoundNatural_row_tie : Rows.topSoundNaturalRow.laidByTextAt .later Tryz.pinned [.data, .funcs, .funcs] true :=
  OpenClaim.laidByTextAt_later rfl rfl tie noOwnUnsafe
theorem topSoundRefutations_row_tie : Rows.topSoundRefutationsRow.laidByTextAt .later Tryz.pinned [.data, .funcs, .funcs] true :=
  OpenClaim.laidByTextAt_later rfl rfl tie noOwnUnsafe
theorem topSoundHilbert_row_tie : Rows.topSoundHilbertRow.laidByTextAt .later Tryz.pinned [.data, .funcs, .funcs] true :=
  OpenClaim.laidByTextAt_later rfl rfl tie noOwnUnsafe
theorem topSoundNaturalUpto_row_tie : Rows.topSoundNaturalUptoRow.laidByTextAt .later Tryz.pinned [.data, .funcs, .funcs] true :=
  OpenClaim.laidByTextAt_later rfl rfl tie noOwnUnsafe
theorem topSoundRefutationsUpto_row_tie : Rows.topSoundRefutationsUptoRow.laidByTextAt .later Tryz.pinned [.data, .funcs, .funcs] true :=
  OpenClaim.laidByTextAt_later rfl rfl tie noOwnUnsafe
theorem topSoundHilbertUpto_row_tie : Rows.topSoundHilbertUptoRow.laidByTextAt .later Tryz.pinned [.data, .funcs, .funcs] true :=
  OpenClaim.laidByTextAt_later rfl rfl tie noOwnUnsafe
end Go.Proofs.YtmidgcldljfkcaaGreatDoor
