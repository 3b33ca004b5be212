/- ChargesHold is proved: for every input the law returns true, and its argument reads afterwards as it read before. Conditions: those of the given row alone. -/
import Derived.Test.YtcjfniddeibbhaaGreatDoorChFrameTri
import Derived.Test.YtcjfniddeibbhaaGreatDoorChConQua
set_option linter.unusedVariables false
set_option linter.unusedSimpArgs false
namespace Go.Proofs.YtcjfniddeibbhaaGreatDoor
theorem chargesHold_holds : Rows.ChargesHoldCardSaid := card9 z9
end Go.Proofs.YtcjfniddeibbhaaGreatDoor
