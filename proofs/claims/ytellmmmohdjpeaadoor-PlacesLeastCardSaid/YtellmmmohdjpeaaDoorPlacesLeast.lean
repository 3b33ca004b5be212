/- PlacesLeast is proved: for every input the law returns true, and its argument reads afterwards as it read before. Conditions: those of the given row alone. -/
import Derived.Test.YtellmmmohdjpeaaDoorPlFrameTri
import Derived.Test.YtellmmmohdjpeaaDoorPlConDec
set_option linter.unusedVariables false
set_option linter.unusedSimpArgs false
namespace Go.Proofs.YtellmmmohdjpeaaDoor
/-- PlacesLeast: for every input the law returns true, and its argument reads afterwards as it read before. -/
theorem placesLeast_holds : Rows.PlacesLeastCardSaid := card9 s9
end Go.Proofs.YtellmmmohdjpeaaDoor
