/- MarkTexts is proved: for every input the law returns true, and its argument reads afterwards as it read before. Conditions: those of the given row alone. -/
import Derived.Test.YtgeakdcbpjmkbaaGreatDoorXmkFrameTri
import Derived.Test.YtgeakdcbpjmkbaaGreatDoorXmkConTri
set_option linter.unusedVariables false
set_option linter.unusedSimpArgs false
namespace Go.Proofs.YtgeakdcbpjmkbaaGreatDoor
theorem markTexts_holds : Rows.MarkTextsCardSaid := card7 z7
end Go.Proofs.YtgeakdcbpjmkbaaGreatDoor
