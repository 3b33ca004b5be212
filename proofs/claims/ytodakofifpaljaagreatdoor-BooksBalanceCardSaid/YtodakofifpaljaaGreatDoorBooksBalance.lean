/- BooksBalance is proved: for every input the law returns true, and its argument reads afterwards as it read before. Conditions: those of the given row alone. -/
import Derived.Test.YtodakofifpaljaaGreatDoorBbFrameTri
import Derived.Test.YtodakofifpaljaaGreatDoorBbConNov
set_option linter.unusedVariables false
set_option linter.unusedSimpArgs false
namespace Go.Proofs.YtodakofifpaljaaGreatDoor
theorem booksBalance_holds : Rows.BooksBalanceCardSaid := NU z3
end Go.Proofs.YtodakofifpaljaaGreatDoor
