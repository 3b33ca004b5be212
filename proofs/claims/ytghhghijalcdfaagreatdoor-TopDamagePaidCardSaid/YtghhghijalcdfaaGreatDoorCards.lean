/-
  DERIVED. GIVEN WITH THE SEED: THE CARDS: each row of YtghhghijalcdfaaGreatDoorRows.lean that lists a variable, with what it lists TIED to the program's text (the seventh form; the later family's looks); each row that meets fmt, with fmt's text TOLD by the authors' own Lean function (tested against real Go, not proved from fmt's source: count such statements apart). THE CARD IS WHAT COUNTS. Prove the row's statement (the work); the ties are given (YtghhghijalcdfaaGreatDoorTie.lean); close each card by the builder's one call (the guide's Derived/Test/ToyasCard.lean, 'card_holds'). Laid BY PROGRAM, IN A SANDBOX (cutbox-door.mjs). By AI agents, Wed Nov 11 2026. No macro, syntax, notation, axiom, sorry.
-/
import Derived.Test.YtghhghijalcdfaaGreatDoorRows
import GoSem.ClaimSeven
namespace Go.Proofs.YtghhghijalcdfaaGreatDoor
namespace Rows

/-- THE TIED CARD OF 'renttop.TopDamagePaid'. -/
def topDamagePaidCard : Claim7 := { stood := { row := topDamagePaidRow, standIns := [], harness := (true, "7c53aba1b72d739bb2fcb58ef368df5e665c2205e42d7d654d829bab59e25e84"), looks := true }, kinds := [], alts := [], laidByText := true, laidKinds := [.data, .data, .data, .data, .sentinel, .sentinel, .pinned], laidTests := true, laidLooks := .later }
def TopDamagePaidCardSaid : Prop := Claim7.holds Tryz.pinned (.plain (OpenSpec.ofChange topDamagePaidSpec)) topDamagePaidCard

/-- THE SECOND FORM's CARD OF 'renttop.TopDamagePaid'. -/
def topDamagePaidUptoCard : Claim7 := { stood := { row := topDamagePaidUptoRow, standIns := [], harness := (true, "7c53aba1b72d739bb2fcb58ef368df5e665c2205e42d7d654d829bab59e25e84"), looks := true }, kinds := [], alts := [], laidByText := true, laidKinds := [.data, .data, .data, .data, .sentinel, .sentinel, .pinned], laidTests := true, laidLooks := .later }
def TopDamagePaidUptoCardSaid : Prop := Claim7.holds Tryz.pinned (.plain (OpenSpec.upto topDamagePaidSpec)) topDamagePaidUptoCard
end Rows
end Go.Proofs.YtghhghijalcdfaaGreatDoor
