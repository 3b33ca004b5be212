/- MarkChecks is proved: for every input the law returns true, and its argument reads afterwards as it read before. Conditions: those of the given row alone. -/
import Derived.Test.YtellmmmohdjpeaaDoorMcFrameTri
import Derived.Test.YtellmmmohdjpeaaDoorMcConSep
set_option linter.unusedVariables false
set_option linter.unusedSimpArgs false
namespace Go.Proofs.YtellmmmohdjpeaaDoor
/-- MarkChecks: for every input the law returns true, and its argument reads afterwards as it read before. -/
theorem markChecks_holds : Rows.MarkChecksCardSaid := card12 s12
end Go.Proofs.YtellmmmohdjpeaaDoor
