/- MatchesAreBest is proved: for every input the law returns true, and its argument reads afterwards as it read before. Conditions: those of the given row alone. -/
import Derived.Test.YtnchgjpdggembaaGreatMbFrameTwo
import Derived.Test.YtnchgjpdggembaaGreatMbConTri
set_option linter.unusedVariables false
set_option linter.unusedSimpArgs false
namespace Go.Proofs.YtnchgjpdggembaaGreat
/-- MatchesAreBest: for every input the law returns true, and its argument reads afterwards as it read before. -/
theorem matchesAreBest_holds : Rows.MatchesAreBestSaid := row3 m3
end Go.Proofs.YtnchgjpdggembaaGreat
