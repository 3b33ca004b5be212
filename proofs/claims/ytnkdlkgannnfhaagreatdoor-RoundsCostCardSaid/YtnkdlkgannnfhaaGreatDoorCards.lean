/-
  DERIVED. GIVEN WITH THE SEED: THE CARDS: each row of YtnkdlkgannnfhaaGreatDoorRows.lean that lists a variable, with what it lists TIED to the program's text (the seventh form; the later family's looks); each row that meets fmt, with fmt's text TOLD by the authors' own Lean function (tested against real Go, not proved from fmt's source: count such statements apart). THE CARD IS WHAT COUNTS. Prove the row's statement (the work); the ties are given (YtnkdlkgannnfhaaGreatDoorTie.lean); close each card by the builder's one call (the guide's Derived/Test/ToyasCard.lean, 'card_holds'). Laid BY PROGRAM, IN A SANDBOX (cutbox-door.mjs). By AI agents, Wed Nov 11 2026. No macro, syntax, notation, axiom, sorry.
-/
import Derived.Test.YtnkdlkgannnfhaaGreatDoorRows
import GoSem.ClaimSeven
namespace Go.Proofs.YtnkdlkgannnfhaaGreatDoor
namespace Rows

/-- THE TIED CARD OF 'rentlaw2.PlansCheck'. -/
def plansCheckCard : Claim7 := { stood := { row := plansCheckRow, standIns := [], harness := (true, "8cef2386d0df3330db3ce67848e8667169c1fe7578b31ab3b7eb262d34c69120"), looks := false }, kinds := [], alts := [], laidByText := true, laidKinds := [.data, .pinned], laidTests := true, laidLooks := .later }
def PlansCheckCardSaid : Prop := Claim7.holds Tryz.pinned (.plain (OpenSpec.ofChange plansCheckSpec)) plansCheckCard

/-- THE TIED CARD OF 'rentkeep2.CentsKept'. -/
def centsKeptCard : Claim7 := { stood := { row := centsKeptRow, standIns := [], harness := (true, "8cef2386d0df3330db3ce67848e8667169c1fe7578b31ab3b7eb262d34c69120"), looks := false }, kinds := [], alts := [], laidByText := true, laidKinds := [.data, .pinned], laidTests := true, laidLooks := .later }
def CentsKeptCardSaid : Prop := Claim7.holds Tryz.pinned (.plain (OpenSpec.ofChange centsKeptSpec)) centsKeptCard

/-- THE TIED CARD OF 'rentlaw2.RoundsLeast'. -/
def roundsLeastCard : Claim7 := { stood := { row := roundsLeastRow, standIns := [], harness := (true, "8cef2386d0df3330db3ce67848e8667169c1fe7578b31ab3b7eb262d34c69120"), looks := false }, kinds := [], alts := [], laidByText := true, laidKinds := [.data, .pinned], laidTests := true, laidLooks := .later }
def RoundsLeastCardSaid : Prop := Claim7.holds Tryz.pinned (.plain (OpenSpec.ofChange roundsLeastSpec)) roundsLeastCard

/-- THE TIED CARD OF 'rentlaw2.MarksApart'. -/
def marksApartCard : Claim7 := { stood := { row := marksApartRow, standIns := [], harness := (true, "8cef2386d0df3330db3ce67848e8667169c1fe7578b31ab3b7eb262d34c69120"), looks := false }, kinds := [], alts := [], laidByText := true, laidKinds := [.data, .pinned], laidTests := true, laidLooks := .later }
def MarksApartCardSaid : Prop := Claim7.holds Tryz.pinned (.plain (OpenSpec.ofChange marksApartSpec)) marksApartCard

/-- THE TIED CARD OF 'rentlaw2.RoundsCost'. -/
def roundsCostCard : Claim7 := { stood := { row := roundsCostRow, standIns := [], harness := (true, "8cef2386d0df3330db3ce67848e8667169c1fe7578b31ab3b7eb262d34c69120"), looks := false }, kinds := [], alts := [], laidByText := true, laidKinds := [.data, .pinned], laidTests := true, laidLooks := .later }
def RoundsCostCardSaid : Prop := Claim7.holds Tryz.pinned (.plain (OpenSpec.ofChange roundsCostSpec)) roundsCostCard

/-- THE TIED CARD OF 'rentlaw2.MarksMatch'. -/
def marksMatchCard : Claim7 := { stood := { row := marksMatchRow, standIns := [], harness := (true, "8cef2386d0df3330db3ce67848e8667169c1fe7578b31ab3b7eb262d34c69120"), looks := false }, kinds := [], alts := [], laidByText := true, laidKinds := [.data, .pinned], laidTests := true, laidLooks := .later }
def MarksMatchCardSaid : Prop := Claim7.holds Tryz.pinned (.plain (OpenSpec.ofChange marksMatchSpec)) marksMatchCard

/-- THE TIED CARD OF 'rentlaw2.ReportsTrace'. -/
def reportsTraceCard : Claim7 := { stood := { row := reportsTraceRow, standIns := [], harness := (true, "8cef2386d0df3330db3ce67848e8667169c1fe7578b31ab3b7eb262d34c69120"), looks := false }, kinds := [], alts := [], laidByText := true, laidKinds := [.data, .pinned], laidTests := true, laidLooks := .later }
def ReportsTraceCardSaid : Prop := Claim7.holds Tryz.pinned (.plain (OpenSpec.ofChange reportsTraceSpec)) reportsTraceCard

/-- THE TIED CARD OF 'rentlaw2.PricesBound'. -/
def pricesBoundCard : Claim7 := { stood := { row := pricesBoundRow, standIns := [], harness := (true, "8cef2386d0df3330db3ce67848e8667169c1fe7578b31ab3b7eb262d34c69120"), looks := false }, kinds := [], alts := [], laidByText := true, laidKinds := [.data, .pinned], laidTests := true, laidLooks := .later }
def PricesBoundCardSaid : Prop := Claim7.holds Tryz.pinned (.plain (OpenSpec.ofChange pricesBoundSpec)) pricesBoundCard

/-- THE TIED CARD OF 'rentlaw2.MarksChange'. -/
def marksChangeCard : Claim7 := { stood := { row := marksChangeRow, standIns := [], harness := (true, "8cef2386d0df3330db3ce67848e8667169c1fe7578b31ab3b7eb262d34c69120"), looks := false }, kinds := [], alts := [], laidByText := true, laidKinds := [.data, .pinned], laidTests := true, laidLooks := .later }
def MarksChangeCardSaid : Prop := Claim7.holds Tryz.pinned (.plain (OpenSpec.ofChange marksChangeSpec)) marksChangeCard

/-- THE TIED CARD OF 'rentlaw2.BlamesFall'. -/
def blamesFallCard : Claim7 := { stood := { row := blamesFallRow, standIns := [], harness := (true, "8cef2386d0df3330db3ce67848e8667169c1fe7578b31ab3b7eb262d34c69120"), looks := false }, kinds := [], alts := [], laidByText := true, laidKinds := [.data, .pinned], laidTests := true, laidLooks := .later }
def BlamesFallCardSaid : Prop := Claim7.holds Tryz.pinned (.plain (OpenSpec.ofChange blamesFallSpec)) blamesFallCard

/-- THE TIED CARD OF 'rentlaw2.RepairsCost'. -/
def repairsCostCard : Claim7 := { stood := { row := repairsCostRow, standIns := [], harness := (true, "8cef2386d0df3330db3ce67848e8667169c1fe7578b31ab3b7eb262d34c69120"), looks := false }, kinds := [], alts := [], laidByText := true, laidKinds := [.data, .pinned], laidTests := true, laidLooks := .later }
def RepairsCostCardSaid : Prop := Claim7.holds Tryz.pinned (.plain (OpenSpec.ofChange repairsCostSpec)) repairsCostCard

/-- THE TIED CARD OF 'rentlaw2.RepairsGroup'. -/
def repairsGroupCard : Claim7 := { stood := { row := repairsGroupRow, standIns := [], harness := (true, "8cef2386d0df3330db3ce67848e8667169c1fe7578b31ab3b7eb262d34c69120"), looks := false }, kinds := [], alts := [], laidByText := true, laidKinds := [.data, .pinned], laidTests := true, laidLooks := .later }
def RepairsGroupCardSaid : Prop := Claim7.holds Tryz.pinned (.plain (OpenSpec.ofChange repairsGroupSpec)) repairsGroupCard

/-- THE TIED CARD OF 'rentkeep2.RoundsAreShortest'. -/
def roundsAreShortestCard : Claim7 := { stood := { row := roundsAreShortestRow, standIns := [], harness := (true, "8cef2386d0df3330db3ce67848e8667169c1fe7578b31ab3b7eb262d34c69120"), looks := false }, kinds := [], alts := [], laidByText := true, laidKinds := [.data, .pinned], laidTests := true, laidLooks := .later }
def RoundsAreShortestCardSaid : Prop := Claim7.holds Tryz.pinned (.plain (OpenSpec.ofChange roundsAreShortestSpec)) roundsAreShortestCard

/-- THE SECOND FORM's CARD OF 'rentlaw2.PlansCheck'. -/
def plansCheckUptoCard : Claim7 := { stood := { row := plansCheckUptoRow, standIns := [], harness := (true, "8cef2386d0df3330db3ce67848e8667169c1fe7578b31ab3b7eb262d34c69120"), looks := false }, kinds := [], alts := [], laidByText := true, laidKinds := [.data, .pinned], laidTests := true, laidLooks := .later }
def PlansCheckUptoCardSaid : Prop := Claim7.holds Tryz.pinned (.plain (OpenSpec.upto plansCheckSpec)) plansCheckUptoCard

/-- THE SECOND FORM's CARD OF 'rentkeep2.CentsKept'. -/
def centsKeptUptoCard : Claim7 := { stood := { row := centsKeptUptoRow, standIns := [], harness := (true, "8cef2386d0df3330db3ce67848e8667169c1fe7578b31ab3b7eb262d34c69120"), looks := false }, kinds := [], alts := [], laidByText := true, laidKinds := [.data, .pinned], laidTests := true, laidLooks := .later }
def CentsKeptUptoCardSaid : Prop := Claim7.holds Tryz.pinned (.plain (OpenSpec.upto centsKeptSpec)) centsKeptUptoCard

/-- THE SECOND FORM's CARD OF 'rentlaw2.RoundsLeast'. -/
def roundsLeastUptoCard : Claim7 := { stood := { row := roundsLeastUptoRow, standIns := [], harness := (true, "8cef2386d0df3330db3ce67848e8667169c1fe7578b31ab3b7eb262d34c69120"), looks := false }, kinds := [], alts := [], laidByText := true, laidKinds := [.data, .pinned], laidTests := true, laidLooks := .later }
def RoundsLeastUptoCardSaid : Prop := Claim7.holds Tryz.pinned (.plain (OpenSpec.upto roundsLeastSpec)) roundsLeastUptoCard

/-- THE SECOND FORM's CARD OF 'rentlaw2.MarksApart'. -/
def marksApartUptoCard : Claim7 := { stood := { row := marksApartUptoRow, standIns := [], harness := (true, "8cef2386d0df3330db3ce67848e8667169c1fe7578b31ab3b7eb262d34c69120"), looks := false }, kinds := [], alts := [], laidByText := true, laidKinds := [.data, .pinned], laidTests := true, laidLooks := .later }
def MarksApartUptoCardSaid : Prop := Claim7.holds Tryz.pinned (.plain (OpenSpec.upto marksApartSpec)) marksApartUptoCard

/-- THE SECOND FORM's CARD OF 'rentlaw2.RoundsCost'. -/
def roundsCostUptoCard : Claim7 := { stood := { row := roundsCostUptoRow, standIns := [], harness := (true, "8cef2386d0df3330db3ce67848e8667169c1fe7578b31ab3b7eb262d34c69120"), looks := false }, kinds := [], alts := [], laidByText := true, laidKinds := [.data, .pinned], laidTests := true, laidLooks := .later }
def RoundsCostUptoCardSaid : Prop := Claim7.holds Tryz.pinned (.plain (OpenSpec.upto roundsCostSpec)) roundsCostUptoCard

/-- THE SECOND FORM's CARD OF 'rentlaw2.MarksMatch'. -/
def marksMatchUptoCard : Claim7 := { stood := { row := marksMatchUptoRow, standIns := [], harness := (true, "8cef2386d0df3330db3ce67848e8667169c1fe7578b31ab3b7eb262d34c69120"), looks := false }, kinds := [], alts := [], laidByText := true, laidKinds := [.data, .pinned], laidTests := true, laidLooks := .later }
def MarksMatchUptoCardSaid : Prop := Claim7.holds Tryz.pinned (.plain (OpenSpec.upto marksMatchSpec)) marksMatchUptoCard

/-- THE SECOND FORM's CARD OF 'rentlaw2.ReportsTrace'. -/
def reportsTraceUptoCard : Claim7 := { stood := { row := reportsTraceUptoRow, standIns := [], harness := (true, "8cef2386d0df3330db3ce67848e8667169c1fe7578b31ab3b7eb262d34c69120"), looks := false }, kinds := [], alts := [], laidByText := true, laidKinds := [.data, .pinned], laidTests := true, laidLooks := .later }
def ReportsTraceUptoCardSaid : Prop := Claim7.holds Tryz.pinned (.plain (OpenSpec.upto reportsTraceSpec)) reportsTraceUptoCard

/-- THE SECOND FORM's CARD OF 'rentlaw2.PricesBound'. -/
def pricesBoundUptoCard : Claim7 := { stood := { row := pricesBoundUptoRow, standIns := [], harness := (true, "8cef2386d0df3330db3ce67848e8667169c1fe7578b31ab3b7eb262d34c69120"), looks := false }, kinds := [], alts := [], laidByText := true, laidKinds := [.data, .pinned], laidTests := true, laidLooks := .later }
def PricesBoundUptoCardSaid : Prop := Claim7.holds Tryz.pinned (.plain (OpenSpec.upto pricesBoundSpec)) pricesBoundUptoCard

/-- THE SECOND FORM's CARD OF 'rentlaw2.MarksChange'. -/
def marksChangeUptoCard : Claim7 := { stood := { row := marksChangeUptoRow, standIns := [], harness := (true, "8cef2386d0df3330db3ce67848e8667169c1fe7578b31ab3b7eb262d34c69120"), looks := false }, kinds := [], alts := [], laidByText := true, laidKinds := [.data, .pinned], laidTests := true, laidLooks := .later }
def MarksChangeUptoCardSaid : Prop := Claim7.holds Tryz.pinned (.plain (OpenSpec.upto marksChangeSpec)) marksChangeUptoCard

/-- THE SECOND FORM's CARD OF 'rentlaw2.BlamesFall'. -/
def blamesFallUptoCard : Claim7 := { stood := { row := blamesFallUptoRow, standIns := [], harness := (true, "8cef2386d0df3330db3ce67848e8667169c1fe7578b31ab3b7eb262d34c69120"), looks := false }, kinds := [], alts := [], laidByText := true, laidKinds := [.data, .pinned], laidTests := true, laidLooks := .later }
def BlamesFallUptoCardSaid : Prop := Claim7.holds Tryz.pinned (.plain (OpenSpec.upto blamesFallSpec)) blamesFallUptoCard

/-- THE SECOND FORM's CARD OF 'rentlaw2.RepairsCost'. -/
def repairsCostUptoCard : Claim7 := { stood := { row := repairsCostUptoRow, standIns := [], harness := (true, "8cef2386d0df3330db3ce67848e8667169c1fe7578b31ab3b7eb262d34c69120"), looks := false }, kinds := [], alts := [], laidByText := true, laidKinds := [.data, .pinned], laidTests := true, laidLooks := .later }
def RepairsCostUptoCardSaid : Prop := Claim7.holds Tryz.pinned (.plain (OpenSpec.upto repairsCostSpec)) repairsCostUptoCard

/-- THE SECOND FORM's CARD OF 'rentlaw2.RepairsGroup'. -/
def repairsGroupUptoCard : Claim7 := { stood := { row := repairsGroupUptoRow, standIns := [], harness := (true, "8cef2386d0df3330db3ce67848e8667169c1fe7578b31ab3b7eb262d34c69120"), looks := false }, kinds := [], alts := [], laidByText := true, laidKinds := [.data, .pinned], laidTests := true, laidLooks := .later }
def RepairsGroupUptoCardSaid : Prop := Claim7.holds Tryz.pinned (.plain (OpenSpec.upto repairsGroupSpec)) repairsGroupUptoCard

/-- THE SECOND FORM's CARD OF 'rentkeep2.RoundsAreShortest'. -/
def roundsAreShortestUptoCard : Claim7 := { stood := { row := roundsAreShortestUptoRow, standIns := [], harness := (true, "8cef2386d0df3330db3ce67848e8667169c1fe7578b31ab3b7eb262d34c69120"), looks := false }, kinds := [], alts := [], laidByText := true, laidKinds := [.data, .pinned], laidTests := true, laidLooks := .later }
def RoundsAreShortestUptoCardSaid : Prop := Claim7.holds Tryz.pinned (.plain (OpenSpec.upto roundsAreShortestSpec)) roundsAreShortestUptoCard
end Rows
end Go.Proofs.YtnkdlkgannnfhaaGreatDoor
