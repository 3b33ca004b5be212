/-
  DERIVED. GIVEN WITH THE SEED: THE CARDS: each row of YtellmmmohdjpeaaDoorRows.lean that lists a variable, with what it lists TIED to the program's text (the seventh form; the later family's looks); each row that meets fmt, with fmt's text TOLD by the authors' own Lean function (tested against real Go, not proved from fmt's source: count such statements apart). THE CARD IS WHAT COUNTS. Prove the row's statement (the work); the ties are given (YtellmmmohdjpeaaDoorTie.lean); close each card by the builder's one call (the guide's Derived/Test/ToyasCard.lean, 'card_holds'). Laid BY PROGRAM, IN A SANDBOX (cutbox-door.mjs). By AI agents, Wed Nov 11 2026. No macro, syntax, notation, axiom, sorry.
-/
import Derived.Test.YtellmmmohdjpeaaDoorRows
import GoSem.ClaimSeven
namespace Go.Proofs.YtellmmmohdjpeaaDoor
namespace Rows

/-- THE TIED CARD OF 'rentlaw2.ChargesBilled'. -/
def chargesBilledCard : Claim7 := { stood := { row := chargesBilledRow, standIns := [], harness := (true, "5996f53e478284bc0d894d6c7b7da6beabf4e227020fabc36b96154eb5890549"), looks := false }, kinds := [], alts := [], laidByText := true, laidKinds := [.data, .pinned], laidTests := true, laidLooks := .later }
def ChargesBilledCardSaid : Prop := Claim7.holds Tryd.pinned (.plain (OpenSpec.ofChange chargesBilledSpec)) chargesBilledCard

/-- THE TIED CARD OF 'rentlaw2.PlansLeast'. -/
def plansLeastCard : Claim7 := { stood := { row := plansLeastRow, standIns := [], harness := (true, "5996f53e478284bc0d894d6c7b7da6beabf4e227020fabc36b96154eb5890549"), looks := false }, kinds := [], alts := [], laidByText := true, laidKinds := [.data, .pinned], laidTests := true, laidLooks := .later }
def PlansLeastCardSaid : Prop := Claim7.holds Tryd.pinned (.plain (OpenSpec.ofChange plansLeastSpec)) plansLeastCard

/-- THE TIED CARD OF 'rentlaw2.CentsSplit'. -/
def centsSplitCard : Claim7 := { stood := { row := centsSplitRow, standIns := [], harness := (true, "5996f53e478284bc0d894d6c7b7da6beabf4e227020fabc36b96154eb5890549"), looks := false }, kinds := [], alts := [], laidByText := true, laidKinds := [.data, .pinned], laidTests := true, laidLooks := .later }
def CentsSplitCardSaid : Prop := Claim7.holds Tryd.pinned (.plain (OpenSpec.ofChange centsSplitSpec)) centsSplitCard

/-- THE TIED CARD OF 'rentlaw2.PricesProve'. -/
def pricesProveCard : Claim7 := { stood := { row := pricesProveRow, standIns := [], harness := (true, "5996f53e478284bc0d894d6c7b7da6beabf4e227020fabc36b96154eb5890549"), looks := false }, kinds := [], alts := [], laidByText := true, laidKinds := [.data, .pinned], laidTests := true, laidLooks := .later }
def PricesProveCardSaid : Prop := Claim7.holds Tryd.pinned (.plain (OpenSpec.ofChange pricesProveSpec)) pricesProveCard

/-- THE TIED CARD OF 'rentlaw2.ServicesDue'. -/
def servicesDueCard : Claim7 := { stood := { row := servicesDueRow, standIns := [], harness := (true, "5996f53e478284bc0d894d6c7b7da6beabf4e227020fabc36b96154eb5890549"), looks := false }, kinds := [], alts := [], laidByText := true, laidKinds := [.data, .pinned], laidTests := true, laidLooks := .later }
def ServicesDueCardSaid : Prop := Claim7.holds Tryd.pinned (.plain (OpenSpec.ofChange servicesDueSpec)) servicesDueCard

/-- THE TIED CARD OF 'rentlaw2.PassagesDouble'. -/
def passagesDoubleCard : Claim7 := { stood := { row := passagesDoubleRow, standIns := [], harness := (true, "5996f53e478284bc0d894d6c7b7da6beabf4e227020fabc36b96154eb5890549"), looks := false }, kinds := [], alts := [], laidByText := true, laidKinds := [.data, .pinned], laidTests := true, laidLooks := .later }
def PassagesDoubleCardSaid : Prop := Claim7.holds Tryd.pinned (.plain (OpenSpec.ofChange passagesDoubleSpec)) passagesDoubleCard

/-- THE TIED CARD OF 'rentlaw2.PlacesLeast'. -/
def placesLeastCard : Claim7 := { stood := { row := placesLeastRow, standIns := [], harness := (true, "5996f53e478284bc0d894d6c7b7da6beabf4e227020fabc36b96154eb5890549"), looks := false }, kinds := [], alts := [], laidByText := true, laidKinds := [.data, .pinned], laidTests := true, laidLooks := .later }
def PlacesLeastCardSaid : Prop := Claim7.holds Tryd.pinned (.plain (OpenSpec.ofChange placesLeastSpec)) placesLeastCard

/-- THE TIED CARD OF 'rentlaw2.PlacesCheck'. -/
def placesCheckCard : Claim7 := { stood := { row := placesCheckRow, standIns := [], harness := (true, "5996f53e478284bc0d894d6c7b7da6beabf4e227020fabc36b96154eb5890549"), looks := false }, kinds := [], alts := [], laidByText := true, laidKinds := [.data, .pinned], laidTests := true, laidLooks := .later }
def PlacesCheckCardSaid : Prop := Claim7.holds Tryd.pinned (.plain (OpenSpec.ofChange placesCheckSpec)) placesCheckCard

/-- THE TIED CARD OF 'rentlaw2.PassagesMerge'. -/
def passagesMergeCard : Claim7 := { stood := { row := passagesMergeRow, standIns := [], harness := (true, "5996f53e478284bc0d894d6c7b7da6beabf4e227020fabc36b96154eb5890549"), looks := false }, kinds := [], alts := [], laidByText := true, laidKinds := [.data, .pinned], laidTests := true, laidLooks := .later }
def PassagesMergeCardSaid : Prop := Claim7.holds Tryd.pinned (.plain (OpenSpec.ofChange passagesMergeSpec)) passagesMergeCard

/-- THE TIED CARD OF 'rentlaw2.MarkChecks'. -/
def markChecksCard : Claim7 := { stood := { row := markChecksRow, standIns := [], harness := (true, "5996f53e478284bc0d894d6c7b7da6beabf4e227020fabc36b96154eb5890549"), looks := false }, kinds := [], alts := [], laidByText := true, laidKinds := [.data, .pinned], laidTests := true, laidLooks := .later }
def MarkChecksCardSaid : Prop := Claim7.holds Tryd.pinned (.plain (OpenSpec.ofChange markChecksSpec)) markChecksCard

/-- THE SECOND FORM's CARD OF 'rentlaw2.ChargesBilled'. -/
def chargesBilledUptoCard : Claim7 := { stood := { row := chargesBilledUptoRow, standIns := [], harness := (true, "5996f53e478284bc0d894d6c7b7da6beabf4e227020fabc36b96154eb5890549"), looks := false }, kinds := [], alts := [], laidByText := true, laidKinds := [.data, .pinned], laidTests := true, laidLooks := .later }
def ChargesBilledUptoCardSaid : Prop := Claim7.holds Tryd.pinned (.plain (OpenSpec.upto chargesBilledSpec)) chargesBilledUptoCard

/-- THE SECOND FORM's CARD OF 'rentlaw2.PlansLeast'. -/
def plansLeastUptoCard : Claim7 := { stood := { row := plansLeastUptoRow, standIns := [], harness := (true, "5996f53e478284bc0d894d6c7b7da6beabf4e227020fabc36b96154eb5890549"), looks := false }, kinds := [], alts := [], laidByText := true, laidKinds := [.data, .pinned], laidTests := true, laidLooks := .later }
def PlansLeastUptoCardSaid : Prop := Claim7.holds Tryd.pinned (.plain (OpenSpec.upto plansLeastSpec)) plansLeastUptoCard

/-- THE SECOND FORM's CARD OF 'rentlaw2.CentsSplit'. -/
def centsSplitUptoCard : Claim7 := { stood := { row := centsSplitUptoRow, standIns := [], harness := (true, "5996f53e478284bc0d894d6c7b7da6beabf4e227020fabc36b96154eb5890549"), looks := false }, kinds := [], alts := [], laidByText := true, laidKinds := [.data, .pinned], laidTests := true, laidLooks := .later }
def CentsSplitUptoCardSaid : Prop := Claim7.holds Tryd.pinned (.plain (OpenSpec.upto centsSplitSpec)) centsSplitUptoCard

/-- THE SECOND FORM's CARD OF 'rentlaw2.PricesProve'. -/
def pricesProveUptoCard : Claim7 := { stood := { row := pricesProveUptoRow, standIns := [], harness := (true, "5996f53e478284bc0d894d6c7b7da6beabf4e227020fabc36b96154eb5890549"), looks := false }, kinds := [], alts := [], laidByText := true, laidKinds := [.data, .pinned], laidTests := true, laidLooks := .later }
def PricesProveUptoCardSaid : Prop := Claim7.holds Tryd.pinned (.plain (OpenSpec.upto pricesProveSpec)) pricesProveUptoCard

/-- THE SECOND FORM's CARD OF 'rentlaw2.ServicesDue'. -/
def servicesDueUptoCard : Claim7 := { stood := { row := servicesDueUptoRow, standIns := [], harness := (true, "5996f53e478284bc0d894d6c7b7da6beabf4e227020fabc36b96154eb5890549"), looks := false }, kinds := [], alts := [], laidByText := true, laidKinds := [.data, .pinned], laidTests := true, laidLooks := .later }
def ServicesDueUptoCardSaid : Prop := Claim7.holds Tryd.pinned (.plain (OpenSpec.upto servicesDueSpec)) servicesDueUptoCard

/-- THE SECOND FORM's CARD OF 'rentlaw2.PassagesDouble'. -/
def passagesDoubleUptoCard : Claim7 := { stood := { row := passagesDoubleUptoRow, standIns := [], harness := (true, "5996f53e478284bc0d894d6c7b7da6beabf4e227020fabc36b96154eb5890549"), looks := false }, kinds := [], alts := [], laidByText := true, laidKinds := [.data, .pinned], laidTests := true, laidLooks := .later }
def PassagesDoubleUptoCardSaid : Prop := Claim7.holds Tryd.pinned (.plain (OpenSpec.upto passagesDoubleSpec)) passagesDoubleUptoCard

/-- THE SECOND FORM's CARD OF 'rentlaw2.PlacesLeast'. -/
def placesLeastUptoCard : Claim7 := { stood := { row := placesLeastUptoRow, standIns := [], harness := (true, "5996f53e478284bc0d894d6c7b7da6beabf4e227020fabc36b96154eb5890549"), looks := false }, kinds := [], alts := [], laidByText := true, laidKinds := [.data, .pinned], laidTests := true, laidLooks := .later }
def PlacesLeastUptoCardSaid : Prop := Claim7.holds Tryd.pinned (.plain (OpenSpec.upto placesLeastSpec)) placesLeastUptoCard

/-- THE SECOND FORM's CARD OF 'rentlaw2.PlacesCheck'. -/
def placesCheckUptoCard : Claim7 := { stood := { row := placesCheckUptoRow, standIns := [], harness := (true, "5996f53e478284bc0d894d6c7b7da6beabf4e227020fabc36b96154eb5890549"), looks := false }, kinds := [], alts := [], laidByText := true, laidKinds := [.data, .pinned], laidTests := true, laidLooks := .later }
def PlacesCheckUptoCardSaid : Prop := Claim7.holds Tryd.pinned (.plain (OpenSpec.upto placesCheckSpec)) placesCheckUptoCard

/-- THE SECOND FORM's CARD OF 'rentlaw2.PassagesMerge'. -/
def passagesMergeUptoCard : Claim7 := { stood := { row := passagesMergeUptoRow, standIns := [], harness := (true, "5996f53e478284bc0d894d6c7b7da6beabf4e227020fabc36b96154eb5890549"), looks := false }, kinds := [], alts := [], laidByText := true, laidKinds := [.data, .pinned], laidTests := true, laidLooks := .later }
def PassagesMergeUptoCardSaid : Prop := Claim7.holds Tryd.pinned (.plain (OpenSpec.upto passagesMergeSpec)) passagesMergeUptoCard

/-- THE SECOND FORM's CARD OF 'rentlaw2.MarkChecks'. -/
def markChecksUptoCard : Claim7 := { stood := { row := markChecksUptoRow, standIns := [], harness := (true, "5996f53e478284bc0d894d6c7b7da6beabf4e227020fabc36b96154eb5890549"), looks := false }, kinds := [], alts := [], laidByText := true, laidKinds := [.data, .pinned], laidTests := true, laidLooks := .later }
def MarkChecksUptoCardSaid : Prop := Claim7.holds Tryd.pinned (.plain (OpenSpec.upto markChecksSpec)) markChecksUptoCard
end Rows
end Go.Proofs.YtellmmmohdjpeaaDoor
