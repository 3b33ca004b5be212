/- MarksApart is proved: for every input the law returns true, and its argument reads afterwards as it read before. Conditions: those of the given row alone. -/
import Derived.Test.YtnkdlkgannnfhaaGreatDoorMaFrameTri
import Derived.Test.YtnkdlkgannnfhaaGreatDoorMaConTri
set_option linter.unusedVariables false
set_option linter.unusedSimpArgs false
namespace Go.Proofs.YtnkdlkgannnfhaaGreatDoor
/-- MarksApart: for every input the law returns true, and its argument reads afterwards as it read before. -/
theorem marksApart_holds : Rows.MarksApartCardSaid := card6 z6
end Go.Proofs.YtnkdlkgannnfhaaGreatDoor
