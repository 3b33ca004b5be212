/- CentsKept is proved: for every input the law returns true, and its argument reads afterwards as it read before. Conditions: those of the given row alone. -/
import Derived.Test.YtnkdlkgannnfhaaGreatDoorKsFrameTri
import Derived.Test.YtnkdlkgannnfhaaGreatDoorKsConTri
set_option linter.unusedVariables false
set_option linter.unusedSimpArgs false
namespace Go.Proofs.YtnkdlkgannnfhaaGreatDoor
/-- CentsKept: for every input the law returns true, and its argument reads afterwards as it read before. -/
theorem centsKept_holds : Rows.CentsKeptCardSaid := card4 z4
end Go.Proofs.YtnkdlkgannnfhaaGreatDoor
