/- EntriesMerge is proved: for every input the law returns true, and its argument reads afterwards as it read before. Conditions: those of the given row alone. -/
import Derived.Test.YtobgeiclibhiiaaGreatDoorUFrameTri
import Derived.Test.YtobgeiclibhiiaaGreatDoorUConQua
set_option linter.unusedVariables false
set_option linter.unusedSimpArgs false
namespace Go.Proofs.YtobgeiclibhiiaaGreatDoor
theorem entriesMerge_holds : Rows.EntriesMergeCardSaid := card3 z3
end Go.Proofs.YtobgeiclibhiiaaGreatDoor
