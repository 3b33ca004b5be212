/- PlansCheck is proved: for every input the law returns true, and its argument reads afterwards as it read before. Conditions: those of the given row alone. -/
import Derived.Test.YteehenjdddlnnaaGreatDoorPckFrameTri
import Derived.Test.YteehenjdddlnnaaGreatDoorPckConTri
set_option linter.unusedVariables false
set_option linter.unusedSimpArgs false
namespace Go.Proofs.YteehenjdddlnnaaGreatDoor
theorem plansCheck_holds : Rows.PlansCheckCardSaid := card3 z3
end Go.Proofs.YteehenjdddlnnaaGreatDoor
