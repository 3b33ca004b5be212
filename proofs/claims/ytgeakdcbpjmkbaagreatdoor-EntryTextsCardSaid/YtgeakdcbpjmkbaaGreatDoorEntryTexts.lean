/- EntryTexts is proved: for every input the law returns true, and its argument reads afterwards as it read before. Conditions: those of the given row alone. -/
import Derived.Test.YtgeakdcbpjmkbaaGreatDoorXetFrameTri
import Derived.Test.YtgeakdcbpjmkbaaGreatDoorXetConTwo
set_option linter.unusedVariables false
set_option linter.unusedSimpArgs false
namespace Go.Proofs.YtgeakdcbpjmkbaaGreatDoor
theorem entryTexts_holds : Rows.EntryTextsCardSaid := card3 z3
end Go.Proofs.YtgeakdcbpjmkbaaGreatDoor
