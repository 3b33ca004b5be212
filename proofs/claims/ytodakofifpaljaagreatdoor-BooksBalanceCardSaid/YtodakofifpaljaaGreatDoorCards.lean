/-
  DERIVED. GIVEN WITH THE SEED: THE CARDS: each row of YtodakofifpaljaaGreatDoorRows.lean that lists a variable, with what it lists TIED to the program's text (the seventh form; the later family's looks); each row that meets fmt, with fmt's text TOLD by the authors' own Lean function (tested against real Go, not proved from fmt's source: count such statements apart). THE CARD IS WHAT COUNTS. Prove the row's statement (the work); the ties are given (YtodakofifpaljaaGreatDoorTie.lean); close each card by the builder's one call (the guide's Derived/Test/ToyasCard.lean, 'card_holds'). Laid BY PROGRAM, IN A SANDBOX (cutbox-door.mjs). By AI agents, Wed Nov 11 2026. No macro, syntax, notation, axiom, sorry.
-/
import Derived.Test.YtodakofifpaljaaGreatDoorRows
import GoSem.ClaimSeven
namespace Go.Proofs.YtodakofifpaljaaGreatDoor
namespace Rows

/-- THE TIED CARD OF 'rentkeep2.BooksBalance'. -/
def booksBalanceCard : Claim7 := { stood := { row := booksBalanceRow, standIns := [], harness := (true, "2bf4f7784bd1d6016fdddf898533284a29dfb3d8e77de0794788bb6c38f6c0b0"), looks := true }, kinds := [], alts := [], laidByText := true, laidKinds := [.data, .data, .data, .data, .sentinel, .sentinel, .pinned], laidTests := true, laidLooks := .later }
def BooksBalanceCardSaid : Prop := Claim7.holds Tryz.pinned (.plain (OpenSpec.ofChange booksBalanceSpec)) booksBalanceCard

/-- THE SECOND FORM's CARD OF 'rentkeep2.BooksBalance'. -/
def booksBalanceUptoCard : Claim7 := { stood := { row := booksBalanceUptoRow, standIns := [], harness := (true, "2bf4f7784bd1d6016fdddf898533284a29dfb3d8e77de0794788bb6c38f6c0b0"), looks := true }, kinds := [], alts := [], laidByText := true, laidKinds := [.data, .data, .data, .data, .sentinel, .sentinel, .pinned], laidTests := true, laidLooks := .later }
def BooksBalanceUptoCardSaid : Prop := Claim7.holds Tryz.pinned (.plain (OpenSpec.upto booksBalanceSpec)) booksBalanceUptoCard
end Rows
end Go.Proofs.YtodakofifpaljaaGreatDoor
