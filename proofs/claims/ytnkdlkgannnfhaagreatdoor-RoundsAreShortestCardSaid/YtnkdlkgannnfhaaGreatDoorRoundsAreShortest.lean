/- RoundsAreShortest is proved: for every input the law returns true, and its argument reads afterwards as it read before. Conditions: those of the given row alone. -/
import Derived.Test.YtnkdlkgannnfhaaGreatDoorRaFrameTri
import Derived.Test.YtnkdlkgannnfhaaGreatDoorRaConQua
set_option linter.unusedVariables false
set_option linter.unusedSimpArgs false
namespace Go.Proofs.YtnkdlkgannnfhaaGreatDoor
/-- RoundsAreShortest: for every input the law returns true, and its argument reads afterwards as it read before. -/
theorem roundsAreShortest_holds : Rows.RoundsAreShortestCardSaid := card15 z15
end Go.Proofs.YtnkdlkgannnfhaaGreatDoor
