/- ServicesDue is proved: for every input the law returns true, and its argument reads afterwards as it read before. Conditions: those of the given row alone. -/
import Derived.Test.YtellmmmohdjpeaaDoorSdFrameTri
import Derived.Test.YtellmmmohdjpeaaDoorSdConNov
set_option linter.unusedVariables false
set_option linter.unusedSimpArgs false
namespace Go.Proofs.YtellmmmohdjpeaaDoor
/-- ServicesDue: for every input the law returns true, and its argument reads afterwards as it read before. -/
theorem servicesDue_holds : Rows.ServicesDueCardSaid := card7 s7
end Go.Proofs.YtellmmmohdjpeaaDoor
