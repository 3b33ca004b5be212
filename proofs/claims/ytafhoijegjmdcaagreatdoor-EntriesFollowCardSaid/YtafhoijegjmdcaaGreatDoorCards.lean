/-
  DERIVED. GIVEN WITH THE SEED: THE CARDS: each row of YtafhoijegjmdcaaGreatDoorRows.lean that lists a variable, with what it lists TIED to the program's text (the seventh form; the later family's looks); each row that meets fmt, with fmt's text TOLD by the authors' own Lean function (tested against real Go, not proved from fmt's source: count such statements apart). THE CARD IS WHAT COUNTS. Prove the row's statement (the work); the ties are given (YtafhoijegjmdcaaGreatDoorTie.lean); close each card by the builder's one call (the guide's Derived/Test/ToyasCard.lean, 'card_holds'). Laid BY PROGRAM, IN A SANDBOX (cutbox-door.mjs). By AI agents, Wed Nov 11 2026. No macro, syntax, notation, axiom, sorry.
-/
import Derived.Test.YtafhoijegjmdcaaGreatDoorRows
import GoSem.ClaimSeven
namespace Go.Proofs.YtafhoijegjmdcaaGreatDoor
namespace Rows

/-- THE TIED CARD OF 'rentlaw2.EntriesFollow'. -/
def entriesFollowCard : Claim7 := { stood := { row := entriesFollowRow, standIns := [], harness := (true, "81074071a9e42f9437dc214d151d2a70b0ceacb95f4706b8bbf50fcc497c114d"), looks := true }, kinds := [], alts := [], laidByText := true, laidKinds := [.data, .data, .data, .data, .sentinel, .sentinel, .pinned], laidTests := true, laidLooks := .later }
def EntriesFollowCardSaid : Prop := Claim7.holds Tryz.pinned (.plain (OpenSpec.ofChange entriesFollowSpec)) entriesFollowCard

/-- THE SECOND FORM's CARD OF 'rentlaw2.EntriesFollow'. -/
def entriesFollowUptoCard : Claim7 := { stood := { row := entriesFollowUptoRow, standIns := [], harness := (true, "81074071a9e42f9437dc214d151d2a70b0ceacb95f4706b8bbf50fcc497c114d"), looks := true }, kinds := [], alts := [], laidByText := true, laidKinds := [.data, .data, .data, .data, .sentinel, .sentinel, .pinned], laidTests := true, laidLooks := .later }
def EntriesFollowUptoCardSaid : Prop := Claim7.holds Tryz.pinned (.plain (OpenSpec.upto entriesFollowSpec)) entriesFollowUptoCard
end Rows
end Go.Proofs.YtafhoijegjmdcaaGreatDoor
