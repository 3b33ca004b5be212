/- FollowedStay is proved: for every input the law returns true, and its argument reads afterwards as it read before. Conditions: those of the given row alone. -/
import Derived.Test.YtophabkpfpbadaaGreatDoorFsFrameTri
import Derived.Test.YtophabkpfpbadaaGreatDoorFsConSex
set_option linter.unusedVariables false
set_option linter.unusedSimpArgs false
namespace Go.Proofs.YtophabkpfpbadaaGreatDoor
theorem followedStay_holds : Rows.FollowedStayCardSaid := card3 z3
end Go.Proofs.YtophabkpfpbadaaGreatDoor
