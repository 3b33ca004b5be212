/- RepairsGroup is proved: for every input the law returns true, and its argument reads afterwards as it read before. Conditions: those of the given row alone. -/
import Derived.Test.YtnkdlkgannnfhaaGreatDoorRgFrameTri
import Derived.Test.YtnkdlkgannnfhaaGreatDoorRgConTri
set_option linter.unusedVariables false
set_option linter.unusedSimpArgs false
namespace Go.Proofs.YtnkdlkgannnfhaaGreatDoor
/-- RepairsGroup: for every input the law returns true, and its argument reads afterwards as it read before. -/
theorem repairsGroup_holds : Rows.RepairsGroupCardSaid := card14 z14
end Go.Proofs.YtnkdlkgannnfhaaGreatDoor
