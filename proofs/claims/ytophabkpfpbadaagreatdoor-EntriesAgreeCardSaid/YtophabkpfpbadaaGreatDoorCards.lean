/-
  DERIVED. GIVEN WITH THE SEED: THE CARDS: each row of YtophabkpfpbadaaGreatDoorRows.lean that lists a variable, with what it lists TIED to the program's text (the seventh form; the later family's looks); each row that meets fmt, with fmt's text TOLD by the authors' own Lean function (tested against real Go, not proved from fmt's source: count such statements apart). THE CARD IS WHAT COUNTS. Prove the row's statement (the work); the ties are given (YtophabkpfpbadaaGreatDoorTie.lean); close each card by the builder's one call (the guide's Derived/Test/ToyasCard.lean, 'card_holds'). Laid BY PROGRAM, IN A SANDBOX (cutbox-door.mjs). By AI agents, Wed Nov 11 2026. No macro, syntax, notation, axiom, sorry.
-/
import Derived.Test.YtophabkpfpbadaaGreatDoorRows
import GoSem.ClaimSeven
namespace Go.Proofs.YtophabkpfpbadaaGreatDoor
namespace Rows

/-- THE TIED CARD OF 'rentkeep2.FollowedStay'. -/
def followedStayCard : Claim7 := { stood := { row := followedStayRow, standIns := [], harness := (true, "f50769044c1c4e92fe3b8205301abcb5fbe1789bdfb07c15e819efb68dd20a03"), looks := true }, kinds := [], alts := [], laidByText := true, laidKinds := [.data, .data, .data, .data, .sentinel, .sentinel, .pinned], laidTests := true, laidLooks := .later }
def FollowedStayCardSaid : Prop := Claim7.holds Tryz.pinned (.plain (OpenSpec.ofChange followedStaySpec)) followedStayCard

/-- THE TIED CARD OF 'rentkeep2.EntriesAgree'. -/
def entriesAgreeCard : Claim7 := { stood := { row := entriesAgreeRow, standIns := [], harness := (true, "f50769044c1c4e92fe3b8205301abcb5fbe1789bdfb07c15e819efb68dd20a03"), looks := true }, kinds := [], alts := [], laidByText := true, laidKinds := [.data, .data, .data, .data, .sentinel, .sentinel, .pinned], laidTests := true, laidLooks := .later }
def EntriesAgreeCardSaid : Prop := Claim7.holds Tryz.pinned (.plain (OpenSpec.ofChange entriesAgreeSpec)) entriesAgreeCard

/-- THE SECOND FORM's CARD OF 'rentkeep2.FollowedStay'. -/
def followedStayUptoCard : Claim7 := { stood := { row := followedStayUptoRow, standIns := [], harness := (true, "f50769044c1c4e92fe3b8205301abcb5fbe1789bdfb07c15e819efb68dd20a03"), looks := true }, kinds := [], alts := [], laidByText := true, laidKinds := [.data, .data, .data, .data, .sentinel, .sentinel, .pinned], laidTests := true, laidLooks := .later }
def FollowedStayUptoCardSaid : Prop := Claim7.holds Tryz.pinned (.plain (OpenSpec.upto followedStaySpec)) followedStayUptoCard

/-- THE SECOND FORM's CARD OF 'rentkeep2.EntriesAgree'. -/
def entriesAgreeUptoCard : Claim7 := { stood := { row := entriesAgreeUptoRow, standIns := [], harness := (true, "f50769044c1c4e92fe3b8205301abcb5fbe1789bdfb07c15e819efb68dd20a03"), looks := true }, kinds := [], alts := [], laidByText := true, laidKinds := [.data, .data, .data, .data, .sentinel, .sentinel, .pinned], laidTests := true, laidLooks := .later }
def EntriesAgreeUptoCardSaid : Prop := Claim7.holds Tryz.pinned (.plain (OpenSpec.upto entriesAgreeSpec)) entriesAgreeUptoCard
end Rows
end Go.Proofs.YtophabkpfpbadaaGreatDoor
