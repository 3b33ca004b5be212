/- NoticesName is proved: for every input the law returns true, and its argument reads afterwards as it read before. Conditions: those of the given row alone. -/
import Derived.Test.YtcjfniddeibbhaaGreatDoorNnFrameTri
import Derived.Test.YtcjfniddeibbhaaGreatDoorNnConQui
set_option linter.unusedVariables false
set_option linter.unusedSimpArgs false
namespace Go.Proofs.YtcjfniddeibbhaaGreatDoor
theorem noticesName_holds : Rows.NoticesNameCardSaid := card3 z3
end Go.Proofs.YtcjfniddeibbhaaGreatDoor
