/- MoveTexts is proved: for every input the law returns true, and its argument reads afterwards as it read before. Conditions: those of the given row alone. -/
import Derived.Test.YtgeakdcbpjmkbaaGreatDoorXmtFrameTri
import Derived.Test.YtgeakdcbpjmkbaaGreatDoorXmtConTri
set_option linter.unusedVariables false
set_option linter.unusedSimpArgs false
namespace Go.Proofs.YtgeakdcbpjmkbaaGreatDoor
theorem moveTexts_holds : Rows.MoveTextsCardSaid := card6 z6
end Go.Proofs.YtgeakdcbpjmkbaaGreatDoor
