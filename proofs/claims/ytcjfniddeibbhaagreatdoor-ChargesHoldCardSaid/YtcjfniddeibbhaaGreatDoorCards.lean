/-
  DERIVED. GIVEN WITH THE SEED: THE CARDS: each row of YtcjfniddeibbhaaGreatDoorRows.lean that lists a variable, with what it lists TIED to the program's text (the seventh form; the later family's looks); each row that meets fmt, with fmt's text TOLD by the authors' own Lean function (tested against real Go, not proved from fmt's source: count such statements apart). THE CARD IS WHAT COUNTS. Prove the row's statement (the work); the ties are given (YtcjfniddeibbhaaGreatDoorTie.lean); close each card by the builder's one call (the guide's Derived/Test/ToyasCard.lean, 'card_holds'). Laid BY PROGRAM, IN A SANDBOX (cutbox-door.mjs). By AI agents, Wed Nov 11 2026. No macro, syntax, notation, axiom, sorry.
-/
import Derived.Test.YtcjfniddeibbhaaGreatDoorRows
import GoSem.ClaimSeven
namespace Go.Proofs.YtcjfniddeibbhaaGreatDoor
namespace Rows

/-- THE TIED CARD OF 'rentlaw2.NoticesName'. -/
def noticesNameCard : Claim7 := { stood := { row := noticesNameRow, standIns := [], harness := (true, "3d76d282abe0f729535926e4df5fd212586a1c65a7deab1666706714038ffafc"), looks := false }, kinds := [], alts := [], laidByText := true, laidKinds := [.data, .pinned], laidTests := true, laidLooks := .later }
def NoticesNameCardSaid : Prop := Claim7.holds Tryz.pinned (.plain (OpenSpec.ofChange noticesNameSpec)) noticesNameCard

/-- THE TIED CARD OF 'rentlaw2.BlamesFall'. -/
def blamesFallCard : Claim7 := { stood := { row := blamesFallRow, standIns := [], harness := (true, "3d76d282abe0f729535926e4df5fd212586a1c65a7deab1666706714038ffafc"), looks := false }, kinds := [], alts := [], laidByText := true, laidKinds := [.data, .pinned], laidTests := true, laidLooks := .later }
def BlamesFallCardSaid : Prop := Claim7.holds Tryz.pinned (.plain (OpenSpec.ofChange blamesFallSpec)) blamesFallCard

/-- THE TIED CARD OF 'rentlaw2.OwnersFound'. -/
def ownersFoundCard : Claim7 := { stood := { row := ownersFoundRow, standIns := [], harness := (true, "3d76d282abe0f729535926e4df5fd212586a1c65a7deab1666706714038ffafc"), looks := false }, kinds := [], alts := [], laidByText := true, laidKinds := [.data, .pinned], laidTests := true, laidLooks := .later }
def OwnersFoundCardSaid : Prop := Claim7.holds Tryz.pinned (.plain (OpenSpec.ofChange ownersFoundSpec)) ownersFoundCard

/-- THE TIED CARD OF 'rentlaw2.ClocksFound'. -/
def clocksFoundCard : Claim7 := { stood := { row := clocksFoundRow, standIns := [], harness := (true, "3d76d282abe0f729535926e4df5fd212586a1c65a7deab1666706714038ffafc"), looks := false }, kinds := [], alts := [], laidByText := true, laidKinds := [.data, .pinned], laidTests := true, laidLooks := .later }
def ClocksFoundCardSaid : Prop := Claim7.holds Tryz.pinned (.plain (OpenSpec.ofChange clocksFoundSpec)) clocksFoundCard

/-- THE TIED CARD OF 'rentlaw2.ChargesMade'. -/
def chargesMadeCard : Claim7 := { stood := { row := chargesMadeRow, standIns := [], harness := (true, "3d76d282abe0f729535926e4df5fd212586a1c65a7deab1666706714038ffafc"), looks := false }, kinds := [], alts := [], laidByText := true, laidKinds := [.data, .pinned], laidTests := true, laidLooks := .later }
def ChargesMadeCardSaid : Prop := Claim7.holds Tryz.pinned (.plain (OpenSpec.ofChange chargesMadeSpec)) chargesMadeCard

/-- THE TIED CARD OF 'rentkeep2.ClocksFollow'. -/
def clocksFollowCard : Claim7 := { stood := { row := clocksFollowRow, standIns := [], harness := (true, "3d76d282abe0f729535926e4df5fd212586a1c65a7deab1666706714038ffafc"), looks := false }, kinds := [], alts := [], laidByText := true, laidKinds := [.data, .pinned], laidTests := true, laidLooks := .later }
def ClocksFollowCardSaid : Prop := Claim7.holds Tryz.pinned (.plain (OpenSpec.ofChange clocksFollowSpec)) clocksFollowCard

/-- THE TIED CARD OF 'rentkeep2.ChargesHold'. -/
def chargesHoldCard : Claim7 := { stood := { row := chargesHoldRow, standIns := [], harness := (true, "3d76d282abe0f729535926e4df5fd212586a1c65a7deab1666706714038ffafc"), looks := false }, kinds := [], alts := [], laidByText := true, laidKinds := [.data, .pinned], laidTests := true, laidLooks := .later }
def ChargesHoldCardSaid : Prop := Claim7.holds Tryz.pinned (.plain (OpenSpec.ofChange chargesHoldSpec)) chargesHoldCard

/-- THE SECOND FORM's CARD OF 'rentlaw2.NoticesName'. -/
def noticesNameUptoCard : Claim7 := { stood := { row := noticesNameUptoRow, standIns := [], harness := (true, "3d76d282abe0f729535926e4df5fd212586a1c65a7deab1666706714038ffafc"), looks := false }, kinds := [], alts := [], laidByText := true, laidKinds := [.data, .pinned], laidTests := true, laidLooks := .later }
def NoticesNameUptoCardSaid : Prop := Claim7.holds Tryz.pinned (.plain (OpenSpec.upto noticesNameSpec)) noticesNameUptoCard

/-- THE SECOND FORM's CARD OF 'rentlaw2.BlamesFall'. -/
def blamesFallUptoCard : Claim7 := { stood := { row := blamesFallUptoRow, standIns := [], harness := (true, "3d76d282abe0f729535926e4df5fd212586a1c65a7deab1666706714038ffafc"), looks := false }, kinds := [], alts := [], laidByText := true, laidKinds := [.data, .pinned], laidTests := true, laidLooks := .later }
def BlamesFallUptoCardSaid : Prop := Claim7.holds Tryz.pinned (.plain (OpenSpec.upto blamesFallSpec)) blamesFallUptoCard

/-- THE SECOND FORM's CARD OF 'rentlaw2.OwnersFound'. -/
def ownersFoundUptoCard : Claim7 := { stood := { row := ownersFoundUptoRow, standIns := [], harness := (true, "3d76d282abe0f729535926e4df5fd212586a1c65a7deab1666706714038ffafc"), looks := false }, kinds := [], alts := [], laidByText := true, laidKinds := [.data, .pinned], laidTests := true, laidLooks := .later }
def OwnersFoundUptoCardSaid : Prop := Claim7.holds Tryz.pinned (.plain (OpenSpec.upto ownersFoundSpec)) ownersFoundUptoCard

/-- THE SECOND FORM's CARD OF 'rentlaw2.ClocksFound'. -/
def clocksFoundUptoCard : Claim7 := { stood := { row := clocksFoundUptoRow, standIns := [], harness := (true, "3d76d282abe0f729535926e4df5fd212586a1c65a7deab1666706714038ffafc"), looks := false }, kinds := [], alts := [], laidByText := true, laidKinds := [.data, .pinned], laidTests := true, laidLooks := .later }
def ClocksFoundUptoCardSaid : Prop := Claim7.holds Tryz.pinned (.plain (OpenSpec.upto clocksFoundSpec)) clocksFoundUptoCard

/-- THE SECOND FORM's CARD OF 'rentlaw2.ChargesMade'. -/
def chargesMadeUptoCard : Claim7 := { stood := { row := chargesMadeUptoRow, standIns := [], harness := (true, "3d76d282abe0f729535926e4df5fd212586a1c65a7deab1666706714038ffafc"), looks := false }, kinds := [], alts := [], laidByText := true, laidKinds := [.data, .pinned], laidTests := true, laidLooks := .later }
def ChargesMadeUptoCardSaid : Prop := Claim7.holds Tryz.pinned (.plain (OpenSpec.upto chargesMadeSpec)) chargesMadeUptoCard

/-- THE SECOND FORM's CARD OF 'rentkeep2.ClocksFollow'. -/
def clocksFollowUptoCard : Claim7 := { stood := { row := clocksFollowUptoRow, standIns := [], harness := (true, "3d76d282abe0f729535926e4df5fd212586a1c65a7deab1666706714038ffafc"), looks := false }, kinds := [], alts := [], laidByText := true, laidKinds := [.data, .pinned], laidTests := true, laidLooks := .later }
def ClocksFollowUptoCardSaid : Prop := Claim7.holds Tryz.pinned (.plain (OpenSpec.upto clocksFollowSpec)) clocksFollowUptoCard

/-- THE SECOND FORM's CARD OF 'rentkeep2.ChargesHold'. -/
def chargesHoldUptoCard : Claim7 := { stood := { row := chargesHoldUptoRow, standIns := [], harness := (true, "3d76d282abe0f729535926e4df5fd212586a1c65a7deab1666706714038ffafc"), looks := false }, kinds := [], alts := [], laidByText := true, laidKinds := [.data, .pinned], laidTests := true, laidLooks := .later }
def ChargesHoldUptoCardSaid : Prop := Claim7.holds Tryz.pinned (.plain (OpenSpec.upto chargesHoldSpec)) chargesHoldUptoCard
end Rows
end Go.Proofs.YtcjfniddeibbhaaGreatDoor
