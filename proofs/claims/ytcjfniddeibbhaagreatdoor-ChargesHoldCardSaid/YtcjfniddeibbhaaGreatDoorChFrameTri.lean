/- ChargesHold is proved: for every input the law returns true, and its argument reads afterwards as it read before. Conditions: those of the given row alone. -/
import Derived.Test.YtcjfniddeibbhaaGreatDoorChFrameTwo
set_option linter.unusedVariables false
set_option linter.unusedSimpArgs false
set_option maxRecDepth 100000
namespace Go.Proofs.YtcjfniddeibbhaaGreatDoor
open Go Go.Eng Go.ChangeShapes Go.WideShapes Go.ChangeAt Go.RowKit
theorem row9 (hlaw : Law 9) : Rows.ChargesHoldSaid :=
 OpenClaim.holds_of_wide 9 Tryz.f9 rfl rfl rfl rfl rfl rfl rfl ⟨rfl, rfl, rfl, rfl, rfl⟩ rfl rfl rfl rfl rfl named9 Tryz.func9 closed9 inst9 wrap9
  (fun os started H enc _ => lift9 hlaw os started H enc)
end Go.Proofs.YtcjfniddeibbhaaGreatDoor
set_option maxRecDepth 100000
namespace Go.Proofs.YtcjfniddeibbhaaGreatDoor
open Go Go.Eng Go.ChangeShapes Go.WideShapes Go.ChangeAt Go.RowKit
theorem noStand22 : Tryz.pinned.checked.prog.wantsStandIn 22 = false := by kernel_rfl
theorem mainIs' : Tryz.pinned.checked.prog.mainIs = some (true, Rows.chargesHoldCard.stood.harness.2.toList) := by kernel_rfl
theorem noLooks : false = Tryz.pinned.checked.prog.looks [] := by kernel_rfl
theorem wf9 : Rows.chargesHoldRow.wfByText (OpenSpec.ofChange Rows.chargesHoldSpec) = true := by kernel_rfl
theorem goes9 : false = Rows.chargesHoldRow.goesBy Tryz.pinned.checked.prog := by kernel_rfl
theorem par9 (fn : Func) (hfn : Tryz.pinned.checked.prog.funcs[9]? = some fn) (j t : Nat) (ht : fn.params[j]? = some t) : t = 22 := by
 obtain rfl : fn = Tryz.f9 := (Option.some.inj (Tryz.func9.symm.trans hfn)).symm
 rw [Tryz.params9] at ht
 simpa using Array.mem_of_getElem? ht
theorem card9 (hlaw : Law 9) : Rows.ChargesHoldCardSaid :=
 Claim7.holds_tied_plain_at .later [] [.data, .pinned] true Rows.chargesHoldCard.stood.harness false (row9 hlaw) (fun _ h => by cases h) wf9 (fun _ h => by cases h) chargesHold_row_tie rfl ⟨rfl, rfl⟩ mainIs' rfl
  (fun f fn hf hfn => by
    have e : f = 9 := Option.some.inj (hf.symm.trans named9)
    rw [e] at hfn
    exact ⟨noLooks, fun j t ht => by rw [par9 fn hfn j t ht]; exact noStand22⟩) goes9
end Go.Proofs.YtcjfniddeibbhaaGreatDoor
