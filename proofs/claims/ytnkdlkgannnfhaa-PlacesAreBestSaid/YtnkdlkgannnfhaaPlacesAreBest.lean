/- PlacesAreBest is proved: for every input the law returns true, and its argument reads afterwards as it read before. Conditions: those of the given row alone. -/
import Derived.Test.YtnkdlkgannnfhaaPbFrameTwo
import Derived.Test.YtnkdlkgannnfhaaPbConTwo
set_option linter.unusedVariables false
set_option linter.unusedSimpArgs false
namespace Go.Proofs.Ytnkdlkgannnfhaa
/-- PlacesAreBest: for every input the law returns true, and its argument reads afterwards as it read before. -/
theorem placesAreBest_holds : Rows.PlacesAreBestSaid := row4 p4
end Go.Proofs.Ytnkdlkgannnfhaa
