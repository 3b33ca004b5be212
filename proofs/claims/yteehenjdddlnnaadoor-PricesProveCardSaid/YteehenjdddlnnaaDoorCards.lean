/-
  DERIVED. GIVEN WITH THE SEED: THE CARDS: each row of YteehenjdddlnnaaDoorRows.lean that lists a variable, with what it lists TIED to the program's text (the seventh form; the later family's looks); each row that meets fmt, with fmt's text TOLD by the authors' own Lean function (tested against real Go, not proved from fmt's source: count such statements apart). THE CARD IS WHAT COUNTS. Prove the row's statement (the work); the ties are given (YteehenjdddlnnaaDoorTie.lean); close each card by the builder's one call (the guide's Derived/Test/ToyasCard.lean, 'card_holds'). Laid BY PROGRAM, IN A SANDBOX (cutbox-door.mjs). By AI agents, Wed Nov 11 2026. No macro, syntax, notation, axiom, sorry.
-/
import Derived.Test.YteehenjdddlnnaaDoorRows
import GoSem.ClaimSeven
namespace Go.Proofs.YteehenjdddlnnaaDoor
namespace Rows

/-- THE TIED CARD OF 'rentlaw2.PlansLeast'. -/
def plansLeastCard : Claim7 := { stood := { row := plansLeastRow, standIns := [], harness := (true, "9b84d97faaa66d4553d08761ab2df9b9420efbd40519ec12d41aab157cd0603b"), looks := false }, kinds := [], alts := [], laidByText := true, laidKinds := [.data, .pinned], laidTests := true, laidLooks := .later }
def PlansLeastCardSaid : Prop := Claim7.holds Tryd.pinned (.plain (OpenSpec.ofChange plansLeastSpec)) plansLeastCard

/-- THE TIED CARD OF 'rentlaw2.PricesProve'. -/
def pricesProveCard : Claim7 := { stood := { row := pricesProveRow, standIns := [], harness := (true, "9b84d97faaa66d4553d08761ab2df9b9420efbd40519ec12d41aab157cd0603b"), looks := false }, kinds := [], alts := [], laidByText := true, laidKinds := [.data, .pinned], laidTests := true, laidLooks := .later }
def PricesProveCardSaid : Prop := Claim7.holds Tryd.pinned (.plain (OpenSpec.ofChange pricesProveSpec)) pricesProveCard

/-- THE SECOND FORM's CARD OF 'rentlaw2.PlansLeast'. -/
def plansLeastUptoCard : Claim7 := { stood := { row := plansLeastUptoRow, standIns := [], harness := (true, "9b84d97faaa66d4553d08761ab2df9b9420efbd40519ec12d41aab157cd0603b"), looks := false }, kinds := [], alts := [], laidByText := true, laidKinds := [.data, .pinned], laidTests := true, laidLooks := .later }
def PlansLeastUptoCardSaid : Prop := Claim7.holds Tryd.pinned (.plain (OpenSpec.upto plansLeastSpec)) plansLeastUptoCard

/-- THE SECOND FORM's CARD OF 'rentlaw2.PricesProve'. -/
def pricesProveUptoCard : Claim7 := { stood := { row := pricesProveUptoRow, standIns := [], harness := (true, "9b84d97faaa66d4553d08761ab2df9b9420efbd40519ec12d41aab157cd0603b"), looks := false }, kinds := [], alts := [], laidByText := true, laidKinds := [.data, .pinned], laidTests := true, laidLooks := .later }
def PricesProveUptoCardSaid : Prop := Claim7.holds Tryd.pinned (.plain (OpenSpec.upto pricesProveSpec)) pricesProveUptoCard
end Rows
end Go.Proofs.YteehenjdddlnnaaDoor
