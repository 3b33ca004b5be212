/- MarksComeBack is proved: for every input the law returns true, and its argument reads afterwards as it read before. Conditions: those of the given row alone. -/
import Derived.Test.YtgeakdcbpjmkbaaGreatDoorXmbFrameTri
import Derived.Test.YtgeakdcbpjmkbaaGreatDoorXmbConTwo
set_option linter.unusedVariables false
set_option linter.unusedSimpArgs false
namespace Go.Proofs.YtgeakdcbpjmkbaaGreatDoor
theorem marksComeBack_holds : Rows.MarksComeBackCardSaid := card8 z8
end Go.Proofs.YtgeakdcbpjmkbaaGreatDoor
