/- PlansAreCheapest is proved: for every input the law returns true, and its argument reads afterwards as it read before. Conditions: those of the given row alone. -/
import Derived.Test.YteehenjdddlnnaaGreatDoorPchFrameTri
import Derived.Test.YteehenjdddlnnaaGreatDoorPchConQua
set_option linter.unusedVariables false
set_option linter.unusedSimpArgs false
namespace Go.Proofs.YteehenjdddlnnaaGreatDoor
theorem plansAreCheapest_holds : Rows.PlansAreCheapestCardSaid := card5 z5
end Go.Proofs.YteehenjdddlnnaaGreatDoor
