/- TopHousesTell is proved: for every input the law returns true, and its argument reads afterwards as it read before. Conditions: those of the given row alone. -/
import Derived.Test.YtkokpbpililcdaaGreatDoorThFrameTri
import Derived.Test.YtkokpbpililcdaaGreatDoorThConNov
set_option linter.unusedVariables false
set_option linter.unusedSimpArgs false
namespace Go.Proofs.YtkokpbpililcdaaGreatDoor
theorem topHousesTell_holds : Rows.TopHousesTellCardSaid := NK z4
end Go.Proofs.YtkokpbpililcdaaGreatDoor
