/- MarksStay is proved: for every input the law returns true, and its argument reads afterwards as it read before. Conditions: those of the given row alone. -/
import Derived.Test.YtnchgjpdggembaaGreatMsFrameTwo
import Derived.Test.YtnchgjpdggembaaGreatMsConTri
set_option linter.unusedVariables false
set_option linter.unusedSimpArgs false
namespace Go.Proofs.YtnchgjpdggembaaGreat
/-- MarksStay: for every input the law returns true, and its argument reads afterwards as it read before. -/
theorem marksStay_holds : Rows.MarksStaySaid := row4 m4
end Go.Proofs.YtnchgjpdggembaaGreat
