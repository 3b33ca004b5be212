/- RepairsCost is proved: for every input the law returns true, and its argument reads afterwards as it read before. Conditions: those of the given row alone. -/
import Derived.Test.YtnkdlkgannnfhaaGreatDoorRcFrameTri
import Derived.Test.YtnkdlkgannnfhaaGreatDoorRcConQua
set_option linter.unusedVariables false
set_option linter.unusedSimpArgs false
namespace Go.Proofs.YtnkdlkgannnfhaaGreatDoor
/-- RepairsCost: for every input the law returns true, and its argument reads afterwards as it read before. -/
theorem repairsCost_holds : Rows.RepairsCostCardSaid := card13 z13
end Go.Proofs.YtnkdlkgannnfhaaGreatDoor
