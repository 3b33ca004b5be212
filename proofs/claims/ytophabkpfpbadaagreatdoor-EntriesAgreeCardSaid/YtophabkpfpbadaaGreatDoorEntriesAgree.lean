/- EntriesAgree is proved: for every input the law returns true, and its argument reads afterwards as it read before. Conditions: those of the given row alone. -/
import Derived.Test.YtophabkpfpbadaaGreatDoorEaFrameTri
import Derived.Test.YtophabkpfpbadaaGreatDoorEaConNov
set_option linter.unusedVariables false
set_option linter.unusedSimpArgs false
namespace Go.Proofs.YtophabkpfpbadaaGreatDoor
theorem entriesAgree_holds : Rows.EntriesAgreeCardSaid := card4 z4
end Go.Proofs.YtophabkpfpbadaaGreatDoor
