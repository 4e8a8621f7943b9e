/-
  DERIVED. GIVEN WITH THE SEED: THE CARDS: each row of YtipnbfbakohcaaaDoorRows.lean that lists a variable, with what it lists TIED to the program's text (the seventh form; the later family's looks); each row that meets fmt, with fmt's text TOLD by the authors' own Lean function (tested against real Go, not proved from fmt's source: count such statements apart). THE CARD IS WHAT COUNTS. Prove the row's statement (the work); the ties are given (YtipnbfbakohcaaaDoorTie.lean); close each card by the builder's one call (the guide's Derived/Test/ToyasCard.lean, 'card_holds'). Laid BY PROGRAM, IN A SANDBOX (cutbox-door.mjs). By AI agents, Wed Nov 11 2026. No macro, syntax, notation, axiom, sorry.
-/
import Derived.Test.YtipnbfbakohcaaaDoorRows
import GoSem.ClaimSeven
namespace Go.Proofs.YtipnbfbakohcaaaDoor
namespace Rows

/-- THE TIED CARD OF 'wittinglaw50.NaturalChecks'. -/
def naturalChecksCard : Claim7 := { stood := { row := naturalChecksRow, standIns := [], harness := (true, "449cbfae2e6e1f4299fa6b3c74d43c65509f2531e66bf239c809255e37e194ac"), looks := false }, kinds := [], alts := [], laidByText := true, laidKinds := [.funcs], laidTests := true, laidLooks := .later }
def NaturalChecksCardSaid : Prop := Claim7.holds Tryd.pinned (.plain (OpenSpec.ofChange naturalChecksSpec)) naturalChecksCard

/-- THE TIED CARD OF 'wittinglaw50.NaturalTheorems'. -/
def naturalTheoremsCard : Claim7 := { stood := { row := naturalTheoremsRow, standIns := [], harness := (true, "449cbfae2e6e1f4299fa6b3c74d43c65509f2531e66bf239c809255e37e194ac"), looks := false }, kinds := [], alts := [], laidByText := true, laidKinds := [.funcs], laidTests := true, laidLooks := .later }
def NaturalTheoremsCardSaid : Prop := Claim7.holds Tryd.pinned (.plain (OpenSpec.ofChange naturalTheoremsSpec)) naturalTheoremsCard

/-- THE TIED CARD OF 'wittinglaw50.NaturalLogics'. -/
def naturalLogicsCard : Claim7 := { stood := { row := naturalLogicsRow, standIns := [], harness := (true, "449cbfae2e6e1f4299fa6b3c74d43c65509f2531e66bf239c809255e37e194ac"), looks := false }, kinds := [], alts := [], laidByText := true, laidKinds := [.funcs], laidTests := true, laidLooks := .later }
def NaturalLogicsCardSaid : Prop := Claim7.holds Tryd.pinned (.plain (OpenSpec.ofChange naturalLogicsSpec)) naturalLogicsCard

/-- THE TIED CARD OF 'wittinglaw50.NaturalAxioms'. -/
def naturalAxiomsCard : Claim7 := { stood := { row := naturalAxiomsRow, standIns := [], harness := (true, "449cbfae2e6e1f4299fa6b3c74d43c65509f2531e66bf239c809255e37e194ac"), looks := false }, kinds := [], alts := [], laidByText := true, laidKinds := [.funcs], laidTests := true, laidLooks := .later }
def NaturalAxiomsCardSaid : Prop := Claim7.holds Tryd.pinned (.plain (OpenSpec.ofChange naturalAxiomsSpec)) naturalAxiomsCard

/-- THE SECOND FORM's CARD OF 'wittinglaw50.NaturalChecks'. -/
def naturalChecksUptoCard : Claim7 := { stood := { row := naturalChecksUptoRow, standIns := [], harness := (true, "449cbfae2e6e1f4299fa6b3c74d43c65509f2531e66bf239c809255e37e194ac"), looks := false }, kinds := [], alts := [], laidByText := true, laidKinds := [.funcs], laidTests := true, laidLooks := .later }
def NaturalChecksUptoCardSaid : Prop := Claim7.holds Tryd.pinned (.plain (OpenSpec.upto naturalChecksSpec)) naturalChecksUptoCard

/-- THE SECOND FORM's CARD OF 'wittinglaw50.NaturalTheorems'. -/
def naturalTheoremsUptoCard : Claim7 := { stood := { row := naturalTheoremsUptoRow, standIns := [], harness := (true, "449cbfae2e6e1f4299fa6b3c74d43c65509f2531e66bf239c809255e37e194ac"), looks := false }, kinds := [], alts := [], laidByText := true, laidKinds := [.funcs], laidTests := true, laidLooks := .later }
def NaturalTheoremsUptoCardSaid : Prop := Claim7.holds Tryd.pinned (.plain (OpenSpec.upto naturalTheoremsSpec)) naturalTheoremsUptoCard

/-- THE SECOND FORM's CARD OF 'wittinglaw50.NaturalLogics'. -/
def naturalLogicsUptoCard : Claim7 := { stood := { row := naturalLogicsUptoRow, standIns := [], harness := (true, "449cbfae2e6e1f4299fa6b3c74d43c65509f2531e66bf239c809255e37e194ac"), looks := false }, kinds := [], alts := [], laidByText := true, laidKinds := [.funcs], laidTests := true, laidLooks := .later }
def NaturalLogicsUptoCardSaid : Prop := Claim7.holds Tryd.pinned (.plain (OpenSpec.upto naturalLogicsSpec)) naturalLogicsUptoCard

/-- THE SECOND FORM's CARD OF 'wittinglaw50.NaturalAxioms'. -/
def naturalAxiomsUptoCard : Claim7 := { stood := { row := naturalAxiomsUptoRow, standIns := [], harness := (true, "449cbfae2e6e1f4299fa6b3c74d43c65509f2531e66bf239c809255e37e194ac"), looks := false }, kinds := [], alts := [], laidByText := true, laidKinds := [.funcs], laidTests := true, laidLooks := .later }
def NaturalAxiomsUptoCardSaid : Prop := Claim7.holds Tryd.pinned (.plain (OpenSpec.upto naturalAxiomsSpec)) naturalAxiomsUptoCard
end Rows
end Go.Proofs.YtipnbfbakohcaaaDoor
