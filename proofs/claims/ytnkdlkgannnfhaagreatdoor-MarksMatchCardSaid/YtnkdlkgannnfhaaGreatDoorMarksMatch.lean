/- MarksMatch is proved: for every input the law returns true, and its argument reads afterwards as it read before. Conditions: those of the given row alone. -/
import Derived.Test.YtnkdlkgannnfhaaGreatDoorMmFrameTri
import Derived.Test.YtnkdlkgannnfhaaGreatDoorMmConTri
set_option linter.unusedVariables false
set_option linter.unusedSimpArgs false
namespace Go.Proofs.YtnkdlkgannnfhaaGreatDoor
/-- MarksMatch: for every input the law returns true, and its argument reads afterwards as it read before. -/
theorem marksMatch_holds : Rows.MarksMatchCardSaid := card8 z8
end Go.Proofs.YtnkdlkgannnfhaaGreatDoor
