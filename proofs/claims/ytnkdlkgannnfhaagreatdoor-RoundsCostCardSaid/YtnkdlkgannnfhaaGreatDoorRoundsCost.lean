/- RoundsCost is proved: for every input the law returns true, and its argument reads afterwards as it read before. Conditions: those of the given row alone. -/
import Derived.Test.YtnkdlkgannnfhaaGreatDoorRcFrameTri
import Derived.Test.YtnkdlkgannnfhaaGreatDoorRcConTri
set_option linter.unusedVariables false
set_option linter.unusedSimpArgs false
namespace Go.Proofs.YtnkdlkgannnfhaaGreatDoor
/-- RoundsCost: for every input the law returns true, and its argument reads afterwards as it read before. -/
theorem roundsCost_holds : Rows.RoundsCostCardSaid := card7 z7
end Go.Proofs.YtnkdlkgannnfhaaGreatDoor
