/- RoundsLeast is proved: for every input the law returns true, and its argument reads afterwards as it read before. Conditions: those of the given row alone. -/
import Derived.Test.YtnkdlkgannnfhaaGreatDoorRlFrameTri
import Derived.Test.YtnkdlkgannnfhaaGreatDoorRlConTri
set_option linter.unusedVariables false
set_option linter.unusedSimpArgs false
namespace Go.Proofs.YtnkdlkgannnfhaaGreatDoor
/-- RoundsLeast: for every input the law returns true, and its argument reads afterwards as it read before. -/
theorem roundsLeast_holds : Rows.RoundsLeastCardSaid := card5 z5
end Go.Proofs.YtnkdlkgannnfhaaGreatDoor
