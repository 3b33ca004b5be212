/- PlacesCheck is proved: for every input the law returns true, and its argument reads afterwards as it read before. Conditions: those of the given row alone. -/
import Derived.Test.YtellmmmohdjpeaaDoorPcFrameTri
import Derived.Test.YtellmmmohdjpeaaDoorPcConOct
set_option linter.unusedVariables false
set_option linter.unusedSimpArgs false
namespace Go.Proofs.YtellmmmohdjpeaaDoor
/-- PlacesCheck: for every input the law returns true, and its argument reads afterwards as it read before. -/
theorem placesCheck_holds : Rows.PlacesCheckCardSaid := card10 s10
end Go.Proofs.YtellmmmohdjpeaaDoor
