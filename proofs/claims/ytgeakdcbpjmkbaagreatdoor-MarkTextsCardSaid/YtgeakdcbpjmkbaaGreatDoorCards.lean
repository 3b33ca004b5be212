/-
  DERIVED. GIVEN WITH THE SEED: THE CARDS: each row of YtgeakdcbpjmkbaaGreatDoorRows.lean that lists a variable, with what it lists TIED to the program's text (the seventh form; the later family's looks); each row that meets fmt, with fmt's text TOLD by the authors' own Lean function (tested against real Go, not proved from fmt's source: count such statements apart). THE CARD IS WHAT COUNTS. Prove the row's statement (the work); the ties are given (YtgeakdcbpjmkbaaGreatDoorTie.lean); close each card by the builder's one call (the guide's Derived/Test/ToyasCard.lean, 'card_holds'). Laid BY PROGRAM, IN A SANDBOX (cutbox-door.mjs). By AI agents, Wed Nov 11 2026. No macro, syntax, notation, axiom, sorry.
-/
import Derived.Test.YtgeakdcbpjmkbaaGreatDoorRows
import GoSem.ClaimSeven
namespace Go.Proofs.YtgeakdcbpjmkbaaGreatDoor
namespace Rows

/-- THE TIED CARD OF 'rentlaw2.EntryTexts'. -/
def entryTextsCard : Claim7 := { stood := { row := entryTextsRow, standIns := [], harness := (true, "86922e2026efa36a722a221fd28dce75a2a4fdf62ac5004154a7a774e665b9f7"), looks := true }, kinds := [], alts := [], laidByText := true, laidKinds := [.data, .data, .data, .data, .sentinel, .sentinel, .pinned], laidTests := true, laidLooks := .later }
def EntryTextsCardSaid : Prop := Claim7.holds Tryz.pinned (.plain (OpenSpec.ofChange entryTextsSpec)) entryTextsCard

/-- THE TIED CARD OF 'rentlaw2.PassageTexts'. -/
def passageTextsCard : Claim7 := { stood := { row := passageTextsRow, standIns := [], harness := (true, "86922e2026efa36a722a221fd28dce75a2a4fdf62ac5004154a7a774e665b9f7"), looks := true }, kinds := [], alts := [], laidByText := true, laidKinds := [.data, .data, .data, .data, .sentinel, .sentinel, .pinned], laidTests := true, laidLooks := .later }
def PassageTextsCardSaid : Prop := Claim7.holds Tryz.pinned (.plain (OpenSpec.ofChange passageTextsSpec)) passageTextsCard

/-- THE TIED CARD OF 'rentkeep2.PassagesComeBack'. -/
def passagesComeBackCard : Claim7 := { stood := { row := passagesComeBackRow, standIns := [], harness := (true, "86922e2026efa36a722a221fd28dce75a2a4fdf62ac5004154a7a774e665b9f7"), looks := true }, kinds := [], alts := [], laidByText := true, laidKinds := [.data, .data, .data, .data, .sentinel, .sentinel, .pinned], laidTests := true, laidLooks := .later }
def PassagesComeBackCardSaid : Prop := Claim7.holds Tryz.pinned (.plain (OpenSpec.ofChange passagesComeBackSpec)) passagesComeBackCard

/-- THE TIED CARD OF 'rentlaw2.MoveTexts'. -/
def moveTextsCard : Claim7 := { stood := { row := moveTextsRow, standIns := [], harness := (true, "86922e2026efa36a722a221fd28dce75a2a4fdf62ac5004154a7a774e665b9f7"), looks := true }, kinds := [], alts := [], laidByText := true, laidKinds := [.data, .data, .data, .data, .sentinel, .sentinel, .pinned], laidTests := true, laidLooks := .later }
def MoveTextsCardSaid : Prop := Claim7.holds Tryz.pinned (.plain (OpenSpec.ofChange moveTextsSpec)) moveTextsCard

/-- THE TIED CARD OF 'rentlaw2.MarkTexts'. -/
def markTextsCard : Claim7 := { stood := { row := markTextsRow, standIns := [], harness := (true, "86922e2026efa36a722a221fd28dce75a2a4fdf62ac5004154a7a774e665b9f7"), looks := true }, kinds := [], alts := [], laidByText := true, laidKinds := [.data, .data, .data, .data, .sentinel, .sentinel, .pinned], laidTests := true, laidLooks := .later }
def MarkTextsCardSaid : Prop := Claim7.holds Tryz.pinned (.plain (OpenSpec.ofChange markTextsSpec)) markTextsCard

/-- THE TIED CARD OF 'rentkeep2.MarksComeBack'. -/
def marksComeBackCard : Claim7 := { stood := { row := marksComeBackRow, standIns := [], harness := (true, "86922e2026efa36a722a221fd28dce75a2a4fdf62ac5004154a7a774e665b9f7"), looks := true }, kinds := [], alts := [], laidByText := true, laidKinds := [.data, .data, .data, .data, .sentinel, .sentinel, .pinned], laidTests := true, laidLooks := .later }
def MarksComeBackCardSaid : Prop := Claim7.holds Tryz.pinned (.plain (OpenSpec.ofChange marksComeBackSpec)) marksComeBackCard

/-- THE SECOND FORM's CARD OF 'rentlaw2.EntryTexts'. -/
def entryTextsUptoCard : Claim7 := { stood := { row := entryTextsUptoRow, standIns := [], harness := (true, "86922e2026efa36a722a221fd28dce75a2a4fdf62ac5004154a7a774e665b9f7"), looks := true }, kinds := [], alts := [], laidByText := true, laidKinds := [.data, .data, .data, .data, .sentinel, .sentinel, .pinned], laidTests := true, laidLooks := .later }
def EntryTextsUptoCardSaid : Prop := Claim7.holds Tryz.pinned (.plain (OpenSpec.upto entryTextsSpec)) entryTextsUptoCard

/-- THE SECOND FORM's CARD OF 'rentlaw2.PassageTexts'. -/
def passageTextsUptoCard : Claim7 := { stood := { row := passageTextsUptoRow, standIns := [], harness := (true, "86922e2026efa36a722a221fd28dce75a2a4fdf62ac5004154a7a774e665b9f7"), looks := true }, kinds := [], alts := [], laidByText := true, laidKinds := [.data, .data, .data, .data, .sentinel, .sentinel, .pinned], laidTests := true, laidLooks := .later }
def PassageTextsUptoCardSaid : Prop := Claim7.holds Tryz.pinned (.plain (OpenSpec.upto passageTextsSpec)) passageTextsUptoCard

/-- THE SECOND FORM's CARD OF 'rentkeep2.PassagesComeBack'. -/
def passagesComeBackUptoCard : Claim7 := { stood := { row := passagesComeBackUptoRow, standIns := [], harness := (true, "86922e2026efa36a722a221fd28dce75a2a4fdf62ac5004154a7a774e665b9f7"), looks := true }, kinds := [], alts := [], laidByText := true, laidKinds := [.data, .data, .data, .data, .sentinel, .sentinel, .pinned], laidTests := true, laidLooks := .later }
def PassagesComeBackUptoCardSaid : Prop := Claim7.holds Tryz.pinned (.plain (OpenSpec.upto passagesComeBackSpec)) passagesComeBackUptoCard

/-- THE SECOND FORM's CARD OF 'rentlaw2.MoveTexts'. -/
def moveTextsUptoCard : Claim7 := { stood := { row := moveTextsUptoRow, standIns := [], harness := (true, "86922e2026efa36a722a221fd28dce75a2a4fdf62ac5004154a7a774e665b9f7"), looks := true }, kinds := [], alts := [], laidByText := true, laidKinds := [.data, .data, .data, .data, .sentinel, .sentinel, .pinned], laidTests := true, laidLooks := .later }
def MoveTextsUptoCardSaid : Prop := Claim7.holds Tryz.pinned (.plain (OpenSpec.upto moveTextsSpec)) moveTextsUptoCard

/-- THE SECOND FORM's CARD OF 'rentlaw2.MarkTexts'. -/
def markTextsUptoCard : Claim7 := { stood := { row := markTextsUptoRow, standIns := [], harness := (true, "86922e2026efa36a722a221fd28dce75a2a4fdf62ac5004154a7a774e665b9f7"), looks := true }, kinds := [], alts := [], laidByText := true, laidKinds := [.data, .data, .data, .data, .sentinel, .sentinel, .pinned], laidTests := true, laidLooks := .later }
def MarkTextsUptoCardSaid : Prop := Claim7.holds Tryz.pinned (.plain (OpenSpec.upto markTextsSpec)) markTextsUptoCard

/-- THE SECOND FORM's CARD OF 'rentkeep2.MarksComeBack'. -/
def marksComeBackUptoCard : Claim7 := { stood := { row := marksComeBackUptoRow, standIns := [], harness := (true, "86922e2026efa36a722a221fd28dce75a2a4fdf62ac5004154a7a774e665b9f7"), looks := true }, kinds := [], alts := [], laidByText := true, laidKinds := [.data, .data, .data, .data, .sentinel, .sentinel, .pinned], laidTests := true, laidLooks := .later }
def MarksComeBackUptoCardSaid : Prop := Claim7.holds Tryz.pinned (.plain (OpenSpec.upto marksComeBackSpec)) marksComeBackUptoCard
end Rows
end Go.Proofs.YtgeakdcbpjmkbaaGreatDoor
