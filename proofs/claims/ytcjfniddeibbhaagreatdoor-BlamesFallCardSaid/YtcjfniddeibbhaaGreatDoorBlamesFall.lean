/- BlamesFall is proved: for every input the law returns true, and its argument reads afterwards as it read before. Conditions: those of the given row alone. -/
import Derived.Test.YtcjfniddeibbhaaGreatDoorBfFrameTri
import Derived.Test.YtcjfniddeibbhaaGreatDoorBfConTri
set_option linter.unusedVariables false
set_option linter.unusedSimpArgs false
namespace Go.Proofs.YtcjfniddeibbhaaGreatDoor
/-- BlamesFall: for every input the law returns true, and its argument reads afterwards as it read before. -/
theorem blamesFall_holds : Rows.BlamesFallCardSaid := card4 z4
end Go.Proofs.YtcjfniddeibbhaaGreatDoor
