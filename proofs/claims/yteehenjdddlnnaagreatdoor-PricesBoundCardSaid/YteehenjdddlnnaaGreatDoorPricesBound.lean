/- PricesBound is proved: for every input the law returns true, and its argument reads afterwards as it read before. Conditions: those of the given row alone. -/
import Derived.Test.YteehenjdddlnnaaGreatDoorPbdFrameTri
import Derived.Test.YteehenjdddlnnaaGreatDoorPbdConQua
set_option linter.unusedVariables false
set_option linter.unusedSimpArgs false
namespace Go.Proofs.YteehenjdddlnnaaGreatDoor
theorem pricesBound_holds : Rows.PricesBoundCardSaid := card4 z4
end Go.Proofs.YteehenjdddlnnaaGreatDoor
