/- ReportsTrace is proved: for every input the law returns true, and its argument reads afterwards as it read before. Conditions: those of the given row alone. -/
import Derived.Test.YtnkdlkgannnfhaaGreatDoorRtFrameTri
import Derived.Test.YtnkdlkgannnfhaaGreatDoorRtConQua
set_option linter.unusedVariables false
set_option linter.unusedSimpArgs false
namespace Go.Proofs.YtnkdlkgannnfhaaGreatDoor
/-- ReportsTrace: for every input the law returns true, and its argument reads afterwards as it read before. -/
theorem reportsTrace_holds : Rows.ReportsTraceCardSaid := card9 z9
end Go.Proofs.YtnkdlkgannnfhaaGreatDoor
