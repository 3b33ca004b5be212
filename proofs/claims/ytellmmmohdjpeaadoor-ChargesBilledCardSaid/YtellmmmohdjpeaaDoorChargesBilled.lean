/- ChargesBilled is proved: for every input the law returns true, and its argument reads afterwards as it read before. Conditions: those of the given row alone. -/
import Derived.Test.YtellmmmohdjpeaaDoorCbFrameTri
import Derived.Test.YtellmmmohdjpeaaDoorCbConTri
set_option linter.unusedVariables false
set_option linter.unusedSimpArgs false
namespace Go.Proofs.YtellmmmohdjpeaaDoor
/-- ChargesBilled: for every input the law returns true, and its argument reads afterwards as it read before. -/
theorem chargesBilled_holds : Rows.ChargesBilledCardSaid := card3 s3
end Go.Proofs.YtellmmmohdjpeaaDoor
