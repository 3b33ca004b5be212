/- PassagesDouble is proved: for every input the law returns true, and its argument reads afterwards as it read before. Conditions: those of the given row alone. -/
import Derived.Test.YtellmmmohdjpeaaDoorPdFrameTri
import Derived.Test.YtellmmmohdjpeaaDoorPdConQua
set_option linter.unusedVariables false
set_option linter.unusedSimpArgs false
namespace Go.Proofs.YtellmmmohdjpeaaDoor
/-- PassagesDouble: for every input the law returns true, and its argument reads afterwards as it read before. -/
theorem passagesDouble_holds : Rows.PassagesDoubleCardSaid := card8 s8
end Go.Proofs.YtellmmmohdjpeaaDoor
