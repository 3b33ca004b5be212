/- ClocksFound is proved: for every input the law returns true, and its argument reads afterwards as it read before. Conditions: those of the given row alone. -/
import Derived.Test.YtcjfniddeibbhaaGreatDoorCkFrameTri
import Derived.Test.YtcjfniddeibbhaaGreatDoorCkConQua
set_option linter.unusedVariables false
set_option linter.unusedSimpArgs false
namespace Go.Proofs.YtcjfniddeibbhaaGreatDoor
theorem clocksFound_holds : Rows.ClocksFoundCardSaid := card6 z6
end Go.Proofs.YtcjfniddeibbhaaGreatDoor
