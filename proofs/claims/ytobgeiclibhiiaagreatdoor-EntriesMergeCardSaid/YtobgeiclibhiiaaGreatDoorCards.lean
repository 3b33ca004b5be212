/-
  DERIVED. GIVEN WITH THE SEED: THE CARDS: each row of YtobgeiclibhiiaaGreatDoorRows.lean that lists a variable, with what it lists TIED to the program's text (the seventh form; the later family's looks); each row that meets fmt, with fmt's text TOLD by the authors' own Lean function (tested against real Go, not proved from fmt's source: count such statements apart). THE CARD IS WHAT COUNTS. Prove the row's statement (the work); the ties are given (YtobgeiclibhiiaaGreatDoorTie.lean); close each card by the builder's one call (the guide's Derived/Test/ToyasCard.lean, 'card_holds'). Laid BY PROGRAM, IN A SANDBOX (cutbox-door.mjs). By AI agents, Wed Nov 11 2026. No macro, syntax, notation, axiom, sorry.
-/
import Derived.Test.YtobgeiclibhiiaaGreatDoorRows
import GoSem.ClaimSeven
namespace Go.Proofs.YtobgeiclibhiiaaGreatDoor
namespace Rows

/-- THE TIED CARD OF 'rentlaw2.EntriesMerge'. -/
def entriesMergeCard : Claim7 := { stood := { row := entriesMergeRow, standIns := [], harness := (true, "ea8c2c24ac94b9a2281994e75f299bacf3223ddeb8271b588281d752270a89be"), looks := false }, kinds := [], alts := [], laidByText := true, laidKinds := [.data, .data, .data, .data, .pinned], laidTests := true, laidLooks := .later }
def EntriesMergeCardSaid : Prop := Claim7.holds Tryz.pinned (.plain (OpenSpec.ofChange entriesMergeSpec)) entriesMergeCard

/-- THE SECOND FORM's CARD OF 'rentlaw2.EntriesMerge'. -/
def entriesMergeUptoCard : Claim7 := { stood := { row := entriesMergeUptoRow, standIns := [], harness := (true, "ea8c2c24ac94b9a2281994e75f299bacf3223ddeb8271b588281d752270a89be"), looks := false }, kinds := [], alts := [], laidByText := true, laidKinds := [.data, .data, .data, .data, .pinned], laidTests := true, laidLooks := .later }
def EntriesMergeUptoCardSaid : Prop := Claim7.holds Tryz.pinned (.plain (OpenSpec.upto entriesMergeSpec)) entriesMergeUptoCard
end Rows
end Go.Proofs.YtobgeiclibhiiaaGreatDoor
