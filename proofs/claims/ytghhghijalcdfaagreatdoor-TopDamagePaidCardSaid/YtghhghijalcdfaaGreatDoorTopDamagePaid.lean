/- TopDamagePaid is proved: for every input the law returns true, and its argument reads afterwards as it read before. Conditions: those of the given row alone. -/
import Derived.Test.YtghhghijalcdfaaGreatDoorAdFrameTri
import Derived.Test.YtghhghijalcdfaaGreatDoorAdConOct
set_option linter.unusedVariables false
set_option linter.unusedSimpArgs false
namespace Go.Proofs.YtghhghijalcdfaaGreatDoor
theorem topDamagePaid_holds : Rows.TopDamagePaidCardSaid := card3 z3
end Go.Proofs.YtghhghijalcdfaaGreatDoor
