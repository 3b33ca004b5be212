/-
  DERIVED. GIVEN WITH THE SEED: THE CARDS: each row of YteehenjdddlnnaaGreatDoorRows.lean that lists a variable, with what it lists TIED to the program's text (the seventh form; the later family's looks); each row that meets fmt, with fmt's text TOLD by the authors' own Lean function (tested against real Go, not proved from fmt's source: count such statements apart). THE CARD IS WHAT COUNTS. Prove the row's statement (the work); the ties are given (YteehenjdddlnnaaGreatDoorTie.lean); close each card by the builder's one call (the guide's Derived/Test/ToyasCard.lean, 'card_holds'). Laid BY PROGRAM, IN A SANDBOX (cutbox-door.mjs). By AI agents, Wed Nov 11 2026. No macro, syntax, notation, axiom, sorry.
-/
import Derived.Test.YteehenjdddlnnaaGreatDoorRows
import GoSem.ClaimSeven
namespace Go.Proofs.YteehenjdddlnnaaGreatDoor
namespace Rows

/-- THE TIED CARD OF 'rentlaw2.PlansCheck'. -/
def plansCheckCard : Claim7 := { stood := { row := plansCheckRow, standIns := [], harness := (true, "5913f67eae51a052ae07cc0af3c67594f500a09e1868cdd3e994154fad9f8600"), looks := false }, kinds := [], alts := [], laidByText := true, laidKinds := [.data, .pinned], laidTests := true, laidLooks := .later }
def PlansCheckCardSaid : Prop := Claim7.holds Tryz.pinned (.plain (OpenSpec.ofChange plansCheckSpec)) plansCheckCard

/-- THE TIED CARD OF 'rentlaw2.PricesBound'. -/
def pricesBoundCard : Claim7 := { stood := { row := pricesBoundRow, standIns := [], harness := (true, "5913f67eae51a052ae07cc0af3c67594f500a09e1868cdd3e994154fad9f8600"), looks := false }, kinds := [], alts := [], laidByText := true, laidKinds := [.data, .pinned], laidTests := true, laidLooks := .later }
def PricesBoundCardSaid : Prop := Claim7.holds Tryz.pinned (.plain (OpenSpec.ofChange pricesBoundSpec)) pricesBoundCard

/-- THE TIED CARD OF 'rentkeep2.PlansAreCheapest'. -/
def plansAreCheapestCard : Claim7 := { stood := { row := plansAreCheapestRow, standIns := [], harness := (true, "5913f67eae51a052ae07cc0af3c67594f500a09e1868cdd3e994154fad9f8600"), looks := false }, kinds := [], alts := [], laidByText := true, laidKinds := [.data, .pinned], laidTests := true, laidLooks := .later }
def PlansAreCheapestCardSaid : Prop := Claim7.holds Tryz.pinned (.plain (OpenSpec.ofChange plansAreCheapestSpec)) plansAreCheapestCard

/-- THE SECOND FORM's CARD OF 'rentlaw2.PlansCheck'. -/
def plansCheckUptoCard : Claim7 := { stood := { row := plansCheckUptoRow, standIns := [], harness := (true, "5913f67eae51a052ae07cc0af3c67594f500a09e1868cdd3e994154fad9f8600"), looks := false }, kinds := [], alts := [], laidByText := true, laidKinds := [.data, .pinned], laidTests := true, laidLooks := .later }
def PlansCheckUptoCardSaid : Prop := Claim7.holds Tryz.pinned (.plain (OpenSpec.upto plansCheckSpec)) plansCheckUptoCard

/-- THE SECOND FORM's CARD OF 'rentlaw2.PricesBound'. -/
def pricesBoundUptoCard : Claim7 := { stood := { row := pricesBoundUptoRow, standIns := [], harness := (true, "5913f67eae51a052ae07cc0af3c67594f500a09e1868cdd3e994154fad9f8600"), looks := false }, kinds := [], alts := [], laidByText := true, laidKinds := [.data, .pinned], laidTests := true, laidLooks := .later }
def PricesBoundUptoCardSaid : Prop := Claim7.holds Tryz.pinned (.plain (OpenSpec.upto pricesBoundSpec)) pricesBoundUptoCard

/-- THE SECOND FORM's CARD OF 'rentkeep2.PlansAreCheapest'. -/
def plansAreCheapestUptoCard : Claim7 := { stood := { row := plansAreCheapestUptoRow, standIns := [], harness := (true, "5913f67eae51a052ae07cc0af3c67594f500a09e1868cdd3e994154fad9f8600"), looks := false }, kinds := [], alts := [], laidByText := true, laidKinds := [.data, .pinned], laidTests := true, laidLooks := .later }
def PlansAreCheapestUptoCardSaid : Prop := Claim7.holds Tryz.pinned (.plain (OpenSpec.upto plansAreCheapestSpec)) plansAreCheapestUptoCard
end Rows
end Go.Proofs.YteehenjdddlnnaaGreatDoor
