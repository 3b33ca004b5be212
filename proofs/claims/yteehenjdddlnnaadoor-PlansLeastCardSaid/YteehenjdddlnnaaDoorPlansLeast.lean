/- PlansLeast is proved: for every input the law returns true, and its argument reads afterwards as it read before. Conditions: those of the given row alone. -/
import Derived.Test.YteehenjdddlnnaaDoorPlFrameTri
import Derived.Test.YteehenjdddlnnaaDoorPlConTri
set_option linter.unusedVariables false
set_option linter.unusedSimpArgs false
namespace Go.Proofs.YteehenjdddlnnaaDoor
theorem plansLeast_holds : Rows.PlansLeastCardSaid := card3 z3
end Go.Proofs.YteehenjdddlnnaaDoor
