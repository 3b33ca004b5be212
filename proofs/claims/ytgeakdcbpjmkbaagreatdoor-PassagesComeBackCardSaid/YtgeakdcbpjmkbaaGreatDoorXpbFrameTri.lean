/- PassagesComeBack is proved: for every input the law returns true, and its argument reads afterwards as it read before. Conditions: those of the given row alone. -/
import Derived.Test.YtgeakdcbpjmkbaaGreatDoorXpbFrameTwo
set_option linter.unusedVariables false
set_option linter.unusedSimpArgs false
set_option maxRecDepth 100000
namespace Go.Proofs.YtgeakdcbpjmkbaaGreatDoor
open Go Go.Eng Go.ChangeShapes Go.WideShapes Go.ChangeAt Go.RowKit
theorem row5 (hlaw : Law 5) : Rows.PassagesComeBackSaid :=
 OpenClaim.holds_of_wide 5 Tryz.f5 rfl rfl rfl rfl rfl rfl rfl ⟨rfl, rfl, rfl, rfl, rfl⟩ rfl rfl rfl rfl rfl named5 Tryz.func5 closed5 inst5 wrap5
  (fun os started H enc _ => lift5 hlaw os started H enc)
end Go.Proofs.YtgeakdcbpjmkbaaGreatDoor
set_option maxRecDepth 100000
namespace Go.Proofs.YtgeakdcbpjmkbaaGreatDoor
open Go Go.Eng Go.ChangeShapes Go.WideShapes Go.ChangeAt Go.RowKit
theorem noStand22 : Tryz.pinned.checked.prog.wantsStandIn 22 = false := by kernel_rfl
theorem mainIs' : Tryz.pinned.checked.prog.mainIs = some (true, Rows.passagesComeBackCard.stood.harness.2.toList) := by kernel_rfl
theorem noLooks : true = Tryz.pinned.checked.prog.looks [] := by kernel_rfl
theorem wf5 : Rows.passagesComeBackRow.wfByText (OpenSpec.ofChange Rows.passagesComeBackSpec) = true := by kernel_rfl
theorem goes5 : false = Rows.passagesComeBackRow.goesBy Tryz.pinned.checked.prog := by kernel_rfl
theorem par5 (fn : Func) (hfn : Tryz.pinned.checked.prog.funcs[5]? = some fn) (j t : Nat) (ht : fn.params[j]? = some t) : t = 22 := by
 obtain rfl : fn = Tryz.f5 := (Option.some.inj (Tryz.func5.symm.trans hfn)).symm
 rw [Tryz.params5] at ht
 simpa using Array.mem_of_getElem? ht
theorem card5 (hlaw : Law 5) : Rows.PassagesComeBackCardSaid :=
 Claim7.holds_tied_plain_at .later [] [.data, .data, .data, .data, .sentinel, .sentinel, .pinned] true Rows.passagesComeBackCard.stood.harness true (row5 hlaw) (fun _ h => by cases h) wf5 (fun _ h => by cases h) passagesComeBack_row_tie rfl ⟨rfl, rfl⟩ mainIs' rfl
  (fun f fn hf hfn => by
    have e : f = 5 := Option.some.inj (hf.symm.trans named5)
    rw [e] at hfn
    exact ⟨noLooks, fun j t ht => by rw [par5 fn hfn j t ht]; exact noStand22⟩) goes5
end Go.Proofs.YtgeakdcbpjmkbaaGreatDoor
