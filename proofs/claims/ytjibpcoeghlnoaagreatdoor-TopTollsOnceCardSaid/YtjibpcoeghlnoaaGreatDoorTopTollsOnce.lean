/- TopTollsOnce is proved: for every input the law returns true, and its argument reads afterwards as it read before. Conditions: those of the given row alone. -/
import Derived.Test.YtjibpcoeghlnoaaGreatDoorTtFrameTri
import Derived.Test.YtjibpcoeghlnoaaGreatDoorTtConNov
set_option linter.unusedVariables false
set_option linter.unusedSimpArgs false
namespace Go.Proofs.YtjibpcoeghlnoaaGreatDoor
theorem topTollsOnce_holds : Rows.TopTollsOnceCardSaid := card3 z3
end Go.Proofs.YtjibpcoeghlnoaaGreatDoor
