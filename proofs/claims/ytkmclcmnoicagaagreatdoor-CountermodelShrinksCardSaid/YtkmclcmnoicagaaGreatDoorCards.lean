/-
  DERIVED. GIVEN WITH THE SEED: THE CARDS: each row of YtkmclcmnoicagaaGreatDoorRows.lean that lists a variable, with what it lists TIED to the program's text (the seventh form; the later family's looks); each row that meets fmt, with fmt's text TOLD by the authors' own Lean function (tested against real Go, not proved from fmt's source: count such statements apart). THE CARD IS WHAT COUNTS. Prove the row's statement (the work); the ties are given (YtkmclcmnoicagaaGreatDoorTie.lean); close each card by the builder's one call (the guide's Derived/Test/ToyasCard.lean, 'card_holds'). Laid BY PROGRAM, IN A SANDBOX (cutbox-door.mjs). By AI agents, Wed Nov 11 2026. No macro, syntax, notation, axiom, sorry.
-/
import Derived.Test.YtkmclcmnoicagaaGreatDoorRows
import GoSem.ClaimSeven
namespace Go.Proofs.YtkmclcmnoicagaaGreatDoor
namespace Rows

/-- THE TIED CARD OF 'wittingtop.TopTypesTrue'. -/
def topTypesTrueCard : Claim7 := { stood := { row := topTypesTrueRow, standIns := [], harness := (true, "a7de69f6bc24432a866481e2f7e3bc9bbb844a4bd9cfd11759264fdbfdca9859"), looks := false }, kinds := [], alts := [], laidByText := true, laidKinds := [.data], laidTests := true, laidLooks := .later }
def TopTypesTrueCardSaid : Prop := Claim7.holds Tryz.pinned (.plain (OpenSpec.ofChange topTypesTrueSpec)) topTypesTrueCard

/-- THE TIED CARD OF 'wittinglaw48.CountermodelChecks'. -/
def countermodelChecksCard : Claim7 := { stood := { row := countermodelChecksRow, standIns := [], harness := (true, "a7de69f6bc24432a866481e2f7e3bc9bbb844a4bd9cfd11759264fdbfdca9859"), looks := false }, kinds := [], alts := [], laidByText := true, laidKinds := [.data], laidTests := true, laidLooks := .later }
def CountermodelChecksCardSaid : Prop := Claim7.holds Tryz.pinned (.plain (OpenSpec.ofChange countermodelChecksSpec)) countermodelChecksCard

/-- THE TIED CARD OF 'wittinglaw48.CountermodelShrinks'. -/
def countermodelShrinksCard : Claim7 := { stood := { row := countermodelShrinksRow, standIns := [], harness := (true, "a7de69f6bc24432a866481e2f7e3bc9bbb844a4bd9cfd11759264fdbfdca9859"), looks := false }, kinds := [], alts := [], laidByText := true, laidKinds := [.data], laidTests := true, laidLooks := .later }
def CountermodelShrinksCardSaid : Prop := Claim7.holds Tryz.pinned (.plain (OpenSpec.ofChange countermodelShrinksSpec)) countermodelShrinksCard

/-- THE TIED CARD OF 'wittinglaw48.CountermodelLeast'. -/
def countermodelLeastCard : Claim7 := { stood := { row := countermodelLeastRow, standIns := [], harness := (true, "a7de69f6bc24432a866481e2f7e3bc9bbb844a4bd9cfd11759264fdbfdca9859"), looks := false }, kinds := [], alts := [], laidByText := true, laidKinds := [.data], laidTests := true, laidLooks := .later }
def CountermodelLeastCardSaid : Prop := Claim7.holds Tryz.pinned (.plain (OpenSpec.ofChange countermodelLeastSpec)) countermodelLeastCard

/-- THE TIED CARD OF 'wittinglaw48.CountermodelNumbers'. -/
def countermodelNumbersCard : Claim7 := { stood := { row := countermodelNumbersRow, standIns := [], harness := (true, "a7de69f6bc24432a866481e2f7e3bc9bbb844a4bd9cfd11759264fdbfdca9859"), looks := false }, kinds := [], alts := [], laidByText := true, laidKinds := [.data], laidTests := true, laidLooks := .later }
def CountermodelNumbersCardSaid : Prop := Claim7.holds Tryz.pinned (.plain (OpenSpec.ofChange countermodelNumbersSpec)) countermodelNumbersCard

/-- THE TIED CARD OF 'wittinglaw48.CountermodelSmall'. -/
def countermodelSmallCard : Claim7 := { stood := { row := countermodelSmallRow, standIns := [], harness := (true, "a7de69f6bc24432a866481e2f7e3bc9bbb844a4bd9cfd11759264fdbfdca9859"), looks := false }, kinds := [], alts := [], laidByText := true, laidKinds := [.data], laidTests := true, laidLooks := .later }
def CountermodelSmallCardSaid : Prop := Claim7.holds Tryz.pinned (.plain (OpenSpec.ofChange countermodelSmallSpec)) countermodelSmallCard

/-- THE TIED CARD OF 'wittinglaw48.CountermodelFewest'. -/
def countermodelFewestCard : Claim7 := { stood := { row := countermodelFewestRow, standIns := [], harness := (true, "a7de69f6bc24432a866481e2f7e3bc9bbb844a4bd9cfd11759264fdbfdca9859"), looks := false }, kinds := [], alts := [], laidByText := true, laidKinds := [.data], laidTests := true, laidLooks := .later }
def CountermodelFewestCardSaid : Prop := Claim7.holds Tryz.pinned (.plain (OpenSpec.ofChange countermodelFewestSpec)) countermodelFewestCard

/-- THE TIED CARD OF 'wittinglaw48.CountermodelCounters'. -/
def countermodelCountersCard : Claim7 := { stood := { row := countermodelCountersRow, standIns := [], harness := (true, "a7de69f6bc24432a866481e2f7e3bc9bbb844a4bd9cfd11759264fdbfdca9859"), looks := false }, kinds := [], alts := [], laidByText := true, laidKinds := [.data], laidTests := true, laidLooks := .later }
def CountermodelCountersCardSaid : Prop := Claim7.holds Tryz.pinned (.plain (OpenSpec.ofChange countermodelCountersSpec)) countermodelCountersCard

/-- THE TIED CARD OF 'wittinglaw48.CountermodelDecides'. -/
def countermodelDecidesCard : Claim7 := { stood := { row := countermodelDecidesRow, standIns := [], harness := (true, "a7de69f6bc24432a866481e2f7e3bc9bbb844a4bd9cfd11759264fdbfdca9859"), looks := false }, kinds := [], alts := [], laidByText := true, laidKinds := [.data], laidTests := true, laidLooks := .later }
def CountermodelDecidesCardSaid : Prop := Claim7.holds Tryz.pinned (.plain (OpenSpec.ofChange countermodelDecidesSpec)) countermodelDecidesCard

/-- THE SECOND FORM's CARD OF 'wittingtop.TopTypesTrue'. -/
def topTypesTrueUptoCard : Claim7 := { stood := { row := topTypesTrueUptoRow, standIns := [], harness := (true, "a7de69f6bc24432a866481e2f7e3bc9bbb844a4bd9cfd11759264fdbfdca9859"), looks := false }, kinds := [], alts := [], laidByText := true, laidKinds := [.data], laidTests := true, laidLooks := .later }
def TopTypesTrueUptoCardSaid : Prop := Claim7.holds Tryz.pinned (.plain (OpenSpec.upto topTypesTrueSpec)) topTypesTrueUptoCard

/-- THE SECOND FORM's CARD OF 'wittinglaw48.CountermodelChecks'. -/
def countermodelChecksUptoCard : Claim7 := { stood := { row := countermodelChecksUptoRow, standIns := [], harness := (true, "a7de69f6bc24432a866481e2f7e3bc9bbb844a4bd9cfd11759264fdbfdca9859"), looks := false }, kinds := [], alts := [], laidByText := true, laidKinds := [.data], laidTests := true, laidLooks := .later }
def CountermodelChecksUptoCardSaid : Prop := Claim7.holds Tryz.pinned (.plain (OpenSpec.upto countermodelChecksSpec)) countermodelChecksUptoCard

/-- THE SECOND FORM's CARD OF 'wittinglaw48.CountermodelShrinks'. -/
def countermodelShrinksUptoCard : Claim7 := { stood := { row := countermodelShrinksUptoRow, standIns := [], harness := (true, "a7de69f6bc24432a866481e2f7e3bc9bbb844a4bd9cfd11759264fdbfdca9859"), looks := false }, kinds := [], alts := [], laidByText := true, laidKinds := [.data], laidTests := true, laidLooks := .later }
def CountermodelShrinksUptoCardSaid : Prop := Claim7.holds Tryz.pinned (.plain (OpenSpec.upto countermodelShrinksSpec)) countermodelShrinksUptoCard

/-- THE SECOND FORM's CARD OF 'wittinglaw48.CountermodelLeast'. -/
def countermodelLeastUptoCard : Claim7 := { stood := { row := countermodelLeastUptoRow, standIns := [], harness := (true, "a7de69f6bc24432a866481e2f7e3bc9bbb844a4bd9cfd11759264fdbfdca9859"), looks := false }, kinds := [], alts := [], laidByText := true, laidKinds := [.data], laidTests := true, laidLooks := .later }
def CountermodelLeastUptoCardSaid : Prop := Claim7.holds Tryz.pinned (.plain (OpenSpec.upto countermodelLeastSpec)) countermodelLeastUptoCard

/-- THE SECOND FORM's CARD OF 'wittinglaw48.CountermodelNumbers'. -/
def countermodelNumbersUptoCard : Claim7 := { stood := { row := countermodelNumbersUptoRow, standIns := [], harness := (true, "a7de69f6bc24432a866481e2f7e3bc9bbb844a4bd9cfd11759264fdbfdca9859"), looks := false }, kinds := [], alts := [], laidByText := true, laidKinds := [.data], laidTests := true, laidLooks := .later }
def CountermodelNumbersUptoCardSaid : Prop := Claim7.holds Tryz.pinned (.plain (OpenSpec.upto countermodelNumbersSpec)) countermodelNumbersUptoCard

/-- THE SECOND FORM's CARD OF 'wittinglaw48.CountermodelSmall'. -/
def countermodelSmallUptoCard : Claim7 := { stood := { row := countermodelSmallUptoRow, standIns := [], harness := (true, "a7de69f6bc24432a866481e2f7e3bc9bbb844a4bd9cfd11759264fdbfdca9859"), looks := false }, kinds := [], alts := [], laidByText := true, laidKinds := [.data], laidTests := true, laidLooks := .later }
def CountermodelSmallUptoCardSaid : Prop := Claim7.holds Tryz.pinned (.plain (OpenSpec.upto countermodelSmallSpec)) countermodelSmallUptoCard

/-- THE SECOND FORM's CARD OF 'wittinglaw48.CountermodelFewest'. -/
def countermodelFewestUptoCard : Claim7 := { stood := { row := countermodelFewestUptoRow, standIns := [], harness := (true, "a7de69f6bc24432a866481e2f7e3bc9bbb844a4bd9cfd11759264fdbfdca9859"), looks := false }, kinds := [], alts := [], laidByText := true, laidKinds := [.data], laidTests := true, laidLooks := .later }
def CountermodelFewestUptoCardSaid : Prop := Claim7.holds Tryz.pinned (.plain (OpenSpec.upto countermodelFewestSpec)) countermodelFewestUptoCard

/-- THE SECOND FORM's CARD OF 'wittinglaw48.CountermodelCounters'. -/
def countermodelCountersUptoCard : Claim7 := { stood := { row := countermodelCountersUptoRow, standIns := [], harness := (true, "a7de69f6bc24432a866481e2f7e3bc9bbb844a4bd9cfd11759264fdbfdca9859"), looks := false }, kinds := [], alts := [], laidByText := true, laidKinds := [.data], laidTests := true, laidLooks := .later }
def CountermodelCountersUptoCardSaid : Prop := Claim7.holds Tryz.pinned (.plain (OpenSpec.upto countermodelCountersSpec)) countermodelCountersUptoCard

/-- THE SECOND FORM's CARD OF 'wittinglaw48.CountermodelDecides'. -/
def countermodelDecidesUptoCard : Claim7 := { stood := { row := countermodelDecidesUptoRow, standIns := [], harness := (true, "a7de69f6bc24432a866481e2f7e3bc9bbb844a4bd9cfd11759264fdbfdca9859"), looks := false }, kinds := [], alts := [], laidByText := true, laidKinds := [.data], laidTests := true, laidLooks := .later }
def CountermodelDecidesUptoCardSaid : Prop := Claim7.holds Tryz.pinned (.plain (OpenSpec.upto countermodelDecidesSpec)) countermodelDecidesUptoCard
end Rows
end Go.Proofs.YtkmclcmnoicagaaGreatDoor
