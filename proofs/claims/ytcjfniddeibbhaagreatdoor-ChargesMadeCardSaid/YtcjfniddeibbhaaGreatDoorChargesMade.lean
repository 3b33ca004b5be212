/- ChargesMade is proved: for every input the law returns true, and its argument reads afterwards as it read before. Conditions: those of the given row alone. -/
import Derived.Test.YtcjfniddeibbhaaGreatDoorCmFrameTri
import Derived.Test.YtcjfniddeibbhaaGreatDoorCmConQua
set_option linter.unusedVariables false
set_option linter.unusedSimpArgs false
namespace Go.Proofs.YtcjfniddeibbhaaGreatDoor
theorem chargesMade_holds : Rows.ChargesMadeCardSaid := card7 z7
end Go.Proofs.YtcjfniddeibbhaaGreatDoor
