/- TopQuoteAgain is proved: for every input the law returns true, and its argument reads afterwards as it read before. Conditions: those of the given row alone. -/
import Derived.Test.YtkokpbpililcdaaGreatDoorTqFrameTri
import Derived.Test.YtkokpbpililcdaaGreatDoorTqConNov
set_option linter.unusedVariables false
set_option linter.unusedSimpArgs false
namespace Go.Proofs.YtkokpbpililcdaaGreatDoor
theorem topQuoteAgain_holds : Rows.TopQuoteAgainCardSaid := card3 z3
end Go.Proofs.YtkokpbpililcdaaGreatDoor
