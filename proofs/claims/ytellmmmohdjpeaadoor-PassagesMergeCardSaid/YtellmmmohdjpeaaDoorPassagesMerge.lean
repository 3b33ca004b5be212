/- PassagesMerge is proved: for every input the law returns true, and its argument reads afterwards as it read before. Conditions: those of the given row alone. -/
import Derived.Test.YtellmmmohdjpeaaDoorPmFrameTri
import Derived.Test.YtellmmmohdjpeaaDoorPmConQui
set_option linter.unusedVariables false
set_option linter.unusedSimpArgs false
namespace Go.Proofs.YtellmmmohdjpeaaDoor
/-- PassagesMerge: for every input the law returns true, and its argument reads afterwards as it read before. -/
theorem passagesMerge_holds : Rows.PassagesMergeCardSaid := card11 s11
end Go.Proofs.YtellmmmohdjpeaaDoor
