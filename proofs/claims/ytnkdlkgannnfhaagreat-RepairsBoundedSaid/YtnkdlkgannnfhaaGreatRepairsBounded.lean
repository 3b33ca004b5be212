/- RepairsBounded is proved: for every input the law returns true, and its argument reads afterwards as it read before. Conditions: those of the given row alone. -/
import Derived.Test.YtnkdlkgannnfhaaGreatRbFrameTwo
import Derived.Test.YtnkdlkgannnfhaaGreatRbConTri
set_option linter.unusedVariables false
set_option linter.unusedSimpArgs false
namespace Go.Proofs.YtnkdlkgannnfhaaGreat
/-- RepairsBounded: for every input the law returns true, and its argument reads afterwards as it read before. -/
theorem repairsBounded_holds : Rows.RepairsBoundedSaid := row3 q3
end Go.Proofs.YtnkdlkgannnfhaaGreat
