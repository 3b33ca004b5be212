/- NoticesGrow is proved: for every input the law returns true, and its argument reads afterwards as it read before. Conditions: those of the given row alone. -/
import Derived.Test.YtnkdlkgannnfhaaNgFrameTwo
import Derived.Test.YtnkdlkgannnfhaaNgConTwo
set_option linter.unusedVariables false
set_option linter.unusedSimpArgs false
namespace Go.Proofs.Ytnkdlkgannnfhaa
/-- NoticesGrow: for every input the law returns true, and its argument reads afterwards as it read before. -/
theorem noticesGrow_holds : Rows.NoticesGrowSaid := row3 p3
end Go.Proofs.Ytnkdlkgannnfhaa
