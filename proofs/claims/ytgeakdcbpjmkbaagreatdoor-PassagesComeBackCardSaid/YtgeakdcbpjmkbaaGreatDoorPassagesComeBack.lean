/- PassagesComeBack is proved: for every input the law returns true, and its argument reads afterwards as it read before. Conditions: those of the given row alone. -/
import Derived.Test.YtgeakdcbpjmkbaaGreatDoorXpbFrameTri
import Derived.Test.YtgeakdcbpjmkbaaGreatDoorXpbConTri
set_option linter.unusedVariables false
set_option linter.unusedSimpArgs false
namespace Go.Proofs.YtgeakdcbpjmkbaaGreatDoor
theorem passagesComeBack_holds : Rows.PassagesComeBackCardSaid := card5 z5
end Go.Proofs.YtgeakdcbpjmkbaaGreatDoor
