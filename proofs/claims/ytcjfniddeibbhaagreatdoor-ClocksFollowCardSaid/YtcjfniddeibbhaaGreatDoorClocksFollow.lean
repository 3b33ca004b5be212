/- ClocksFollow is proved: for every input the law returns true, and its argument reads afterwards as it read before. Conditions: those of the given row alone. -/
import Derived.Test.YtcjfniddeibbhaaGreatDoorCfFrameTri
import Derived.Test.YtcjfniddeibbhaaGreatDoorCfConQua
set_option linter.unusedVariables false
set_option linter.unusedSimpArgs false
namespace Go.Proofs.YtcjfniddeibbhaaGreatDoor
theorem clocksFollow_holds : Rows.ClocksFollowCardSaid := card8 z8
end Go.Proofs.YtcjfniddeibbhaaGreatDoor
