/-
  DERIVED. GIVEN WITH THE SEED: THE CARDS: each row of YtjibpcoeghlnoaaGreatDoorRows.lean that lists a variable, with what it lists TIED to the program's text (the seventh form; the later family's looks); each row that meets fmt, with fmt's text TOLD by the authors' own Lean function (tested against real Go, not proved from fmt's source: count such statements apart). THE CARD IS WHAT COUNTS. Prove the row's statement (the work); the ties are given (YtjibpcoeghlnoaaGreatDoorTie.lean); close each card by the builder's one call (the guide's Derived/Test/ToyasCard.lean, 'card_holds'). Laid BY PROGRAM, IN A SANDBOX (cutbox-door.mjs). By AI agents, Wed Nov 11 2026. No macro, syntax, notation, axiom, sorry.
-/
import Derived.Test.YtjibpcoeghlnoaaGreatDoorRows
import GoSem.ClaimSeven
namespace Go.Proofs.YtjibpcoeghlnoaaGreatDoor
namespace Rows

/-- THE TIED CARD OF 'renttop.TopTollsOnce'. -/
def topTollsOnceCard : Claim7 := { stood := { row := topTollsOnceRow, standIns := [], harness := (true, "1ea8a1b16db190ec2ecae50b361fac64c80e5a381c2186c67599470f4ba82e41"), looks := true }, kinds := [], alts := [], laidByText := true, laidKinds := [.data, .data, .data, .data, .sentinel, .sentinel, .pinned], laidTests := true, laidLooks := .later }
def TopTollsOnceCardSaid : Prop := Claim7.holds Tryz.pinned (.plain (OpenSpec.ofChange topTollsOnceSpec)) topTollsOnceCard

/-- THE SECOND FORM's CARD OF 'renttop.TopTollsOnce'. -/
def topTollsOnceUptoCard : Claim7 := { stood := { row := topTollsOnceUptoRow, standIns := [], harness := (true, "1ea8a1b16db190ec2ecae50b361fac64c80e5a381c2186c67599470f4ba82e41"), looks := true }, kinds := [], alts := [], laidByText := true, laidKinds := [.data, .data, .data, .data, .sentinel, .sentinel, .pinned], laidTests := true, laidLooks := .later }
def TopTollsOnceUptoCardSaid : Prop := Claim7.holds Tryz.pinned (.plain (OpenSpec.upto topTollsOnceSpec)) topTollsOnceUptoCard
end Rows
end Go.Proofs.YtjibpcoeghlnoaaGreatDoor
