/- EntriesFollow is proved: for every input the law returns true, and its argument reads afterwards as it read before. Conditions: those of the given row alone. -/
import Derived.Test.YtafhoijegjmdcaaGreatDoorLzFrameTri
import Derived.Test.YtafhoijegjmdcaaGreatDoorLzConNov
set_option linter.unusedVariables false
set_option linter.unusedSimpArgs false
namespace Go.Proofs.YtafhoijegjmdcaaGreatDoor
theorem entriesFollow_holds : Rows.EntriesFollowCardSaid := Ll z3
end Go.Proofs.YtafhoijegjmdcaaGreatDoor
