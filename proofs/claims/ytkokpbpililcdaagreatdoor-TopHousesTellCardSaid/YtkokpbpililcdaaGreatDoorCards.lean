/-
  DERIVED. GIVEN WITH THE SEED: THE CARDS: each row of YtkokpbpililcdaaGreatDoorRows.lean that lists a variable, with what it lists TIED to the program's text (the seventh form; the later family's looks); each row that meets fmt, with fmt's text TOLD by the authors' own Lean function (tested against real Go, not proved from fmt's source: count such statements apart). THE CARD IS WHAT COUNTS. Prove the row's statement (the work); the ties are given (YtkokpbpililcdaaGreatDoorTie.lean); close each card by the builder's one call (the guide's Derived/Test/ToyasCard.lean, 'card_holds'). Laid BY PROGRAM, IN A SANDBOX (cutbox-door.mjs). By AI agents, Wed Nov 11 2026. No macro, syntax, notation, axiom, sorry.
-/
import Derived.Test.YtkokpbpililcdaaGreatDoorRows
import GoSem.ClaimSeven
namespace Go.Proofs.YtkokpbpililcdaaGreatDoor
namespace Rows

/-- THE TIED CARD OF 'renttop.TopQuoteAgain'. -/
def topQuoteAgainCard : Claim7 := { stood := { row := topQuoteAgainRow, standIns := [], harness := (true, "0e3454b636634cc2414738bb38e44b7d7e4ec6356daa0d3ed152bd34121888be"), looks := true }, kinds := [], alts := [], laidByText := true, laidKinds := [.data, .data, .data, .data, .sentinel, .sentinel, .pinned], laidTests := true, laidLooks := .later }
def TopQuoteAgainCardSaid : Prop := Claim7.holds Tryz.pinned (.plain (OpenSpec.ofChange topQuoteAgainSpec)) topQuoteAgainCard

/-- THE TIED CARD OF 'renttop.TopHousesTell'. -/
def topHousesTellCard : Claim7 := { stood := { row := topHousesTellRow, standIns := [], harness := (true, "0e3454b636634cc2414738bb38e44b7d7e4ec6356daa0d3ed152bd34121888be"), looks := true }, kinds := [], alts := [], laidByText := true, laidKinds := [.data, .data, .data, .data, .sentinel, .sentinel, .pinned], laidTests := true, laidLooks := .later }
def TopHousesTellCardSaid : Prop := Claim7.holds Tryz.pinned (.plain (OpenSpec.ofChange topHousesTellSpec)) topHousesTellCard

/-- THE SECOND FORM's CARD OF 'renttop.TopQuoteAgain'. -/
def topQuoteAgainUptoCard : Claim7 := { stood := { row := topQuoteAgainUptoRow, standIns := [], harness := (true, "0e3454b636634cc2414738bb38e44b7d7e4ec6356daa0d3ed152bd34121888be"), looks := true }, kinds := [], alts := [], laidByText := true, laidKinds := [.data, .data, .data, .data, .sentinel, .sentinel, .pinned], laidTests := true, laidLooks := .later }
def TopQuoteAgainUptoCardSaid : Prop := Claim7.holds Tryz.pinned (.plain (OpenSpec.upto topQuoteAgainSpec)) topQuoteAgainUptoCard

/-- THE SECOND FORM's CARD OF 'renttop.TopHousesTell'. -/
def topHousesTellUptoCard : Claim7 := { stood := { row := topHousesTellUptoRow, standIns := [], harness := (true, "0e3454b636634cc2414738bb38e44b7d7e4ec6356daa0d3ed152bd34121888be"), looks := true }, kinds := [], alts := [], laidByText := true, laidKinds := [.data, .data, .data, .data, .sentinel, .sentinel, .pinned], laidTests := true, laidLooks := .later }
def TopHousesTellUptoCardSaid : Prop := Claim7.holds Tryz.pinned (.plain (OpenSpec.upto topHousesTellSpec)) topHousesTellUptoCard
end Rows
end Go.Proofs.YtkokpbpililcdaaGreatDoor
