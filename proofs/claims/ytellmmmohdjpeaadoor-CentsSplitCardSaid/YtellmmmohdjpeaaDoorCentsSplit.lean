/- CentsSplit is proved: for every input the law returns true, and its argument reads afterwards as it read before. Conditions: those of the given row alone. -/
import Derived.Test.YtellmmmohdjpeaaDoorFrameTri
import Derived.Test.YtellmmmohdjpeaaDoorConTwo
set_option linter.unusedVariables false
set_option linter.unusedSimpArgs false
namespace Go.Proofs.YtellmmmohdjpeaaDoor
/-- CentsSplit: for every input the law returns true, and its argument reads afterwards as it read before. -/
theorem centsSplit_holds : Rows.CentsSplitCardSaid := card5 s5
end Go.Proofs.YtellmmmohdjpeaaDoor
