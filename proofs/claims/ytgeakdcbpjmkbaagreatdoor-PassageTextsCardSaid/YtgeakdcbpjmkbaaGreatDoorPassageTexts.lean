/- PassageTexts is proved: for every input the law returns true, and its argument reads afterwards as it read before. Conditions: those of the given row alone. -/
import Derived.Test.YtgeakdcbpjmkbaaGreatDoorXptFrameTri
import Derived.Test.YtgeakdcbpjmkbaaGreatDoorXptConTwo
set_option linter.unusedVariables false
set_option linter.unusedSimpArgs false
namespace Go.Proofs.YtgeakdcbpjmkbaaGreatDoor
theorem passageTexts_holds : Rows.PassageTextsCardSaid := card4 z4
end Go.Proofs.YtgeakdcbpjmkbaaGreatDoor
