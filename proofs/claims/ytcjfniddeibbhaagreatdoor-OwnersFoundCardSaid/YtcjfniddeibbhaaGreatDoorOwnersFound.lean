/- OwnersFound is proved: for every input the law returns true, and its argument reads afterwards as it read before. Conditions: those of the given row alone. -/
import Derived.Test.YtcjfniddeibbhaaGreatDoorOwFrameTri
import Derived.Test.YtcjfniddeibbhaaGreatDoorOwConQua
set_option linter.unusedVariables false
set_option linter.unusedSimpArgs false
namespace Go.Proofs.YtcjfniddeibbhaaGreatDoor
theorem ownersFound_holds : Rows.OwnersFoundCardSaid := card5 z5
end Go.Proofs.YtcjfniddeibbhaaGreatDoor
