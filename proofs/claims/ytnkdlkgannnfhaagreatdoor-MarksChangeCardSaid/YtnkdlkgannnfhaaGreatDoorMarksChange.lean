/- MarksChange is proved: for every input the law returns true, and its argument reads afterwards as it read before. Conditions: those of the given row alone. -/
import Derived.Test.YtnkdlkgannnfhaaGreatDoorMcFrameTri
import Derived.Test.YtnkdlkgannnfhaaGreatDoorMcConQua
set_option linter.unusedVariables false
set_option linter.unusedSimpArgs false
namespace Go.Proofs.YtnkdlkgannnfhaaGreatDoor
/-- MarksChange: for every input the law returns true, and its argument reads afterwards as it read before. -/
theorem marksChange_holds : Rows.MarksChangeCardSaid := card11 z11
end Go.Proofs.YtnkdlkgannnfhaaGreatDoor
