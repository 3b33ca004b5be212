/- PricesProve is proved: for every input the law returns true, and its argument reads afterwards as it read before. Conditions: those of the given row alone. -/
import Derived.Test.YteehenjdddlnnaaDoorPpFrameTri
import Derived.Test.YteehenjdddlnnaaDoorPpConTri
set_option linter.unusedVariables false
set_option linter.unusedSimpArgs false
namespace Go.Proofs.YteehenjdddlnnaaDoor
theorem pricesProve_holds : Rows.PricesProveCardSaid := card4 z4
end Go.Proofs.YteehenjdddlnnaaDoor
