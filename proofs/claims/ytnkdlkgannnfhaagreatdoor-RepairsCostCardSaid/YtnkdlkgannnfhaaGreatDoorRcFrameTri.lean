/- RepairsCost is proved: for every input the law returns true, and its argument reads afterwards as it read before. Conditions: those of the given row alone. -/
import Derived.Test.YtnkdlkgannnfhaaGreatDoorRcFrameTwo
set_option linter.unusedVariables false
set_option linter.unusedSimpArgs false
set_option maxRecDepth 100000
namespace Go.Proofs.YtnkdlkgannnfhaaGreatDoor
open Go Go.Eng Go.ChangeShapes Go.WideShapes Go.ChangeAt Go.RowKit
theorem row13 (hlaw : Law 13) : Rows.RepairsCostSaid :=
    OpenClaim.holds_of_wide 13 Tryz.f13 rfl rfl rfl rfl rfl rfl rfl ⟨rfl, rfl, rfl, rfl, rfl⟩ rfl rfl rfl rfl rfl named13 Tryz.func13 closed13 inst13 wrap13
      (fun os started H enc _ => lift13 hlaw os started H enc)
end Go.Proofs.YtnkdlkgannnfhaaGreatDoor
set_option maxRecDepth 100000
namespace Go.Proofs.YtnkdlkgannnfhaaGreatDoor
open Go Go.Eng Go.ChangeShapes Go.WideShapes Go.ChangeAt Go.RowKit
theorem noStand22 : Tryz.pinned.checked.prog.wantsStandIn 22 = false := by kernel_rfl
theorem mainIs' : Tryz.pinned.checked.prog.mainIs = some (true, Rows.repairsCostCard.stood.harness.2.toList) := by kernel_rfl
theorem noLooks : false = Tryz.pinned.checked.prog.looks [] := by kernel_rfl
theorem wf13 : Rows.repairsCostRow.wfByText (OpenSpec.ofChange Rows.repairsCostSpec) = true := by kernel_rfl
theorem goes13 : false = Rows.repairsCostRow.goesBy Tryz.pinned.checked.prog := by kernel_rfl
theorem par13 (fn : Func) (hfn : Tryz.pinned.checked.prog.funcs[13]? = some fn) (j t : Nat) (ht : fn.params[j]? = some t) : t = 22 := by
  obtain rfl : fn = Tryz.f13 := (Option.some.inj (Tryz.func13.symm.trans hfn)).symm
  rw [Tryz.params13] at ht
  simpa using Array.mem_of_getElem? ht
theorem card13 (hlaw : Law 13) : Rows.RepairsCostCardSaid :=
  Claim7.holds_tied_plain_at .later [] [.data, .pinned] true Rows.repairsCostCard.stood.harness false (row13 hlaw) (fun _ h => by cases h) wf13 (fun _ h => by cases h) repairsCost_row_tie rfl ⟨rfl, rfl⟩ mainIs' rfl
    (fun f fn hf hfn => by
      have e : f = 13 := Option.some.inj (hf.symm.trans named13)
      rw [e] at hfn
      exact ⟨noLooks, fun j t ht => by rw [par13 fn hfn j t ht]; exact noStand22⟩) goes13
end Go.Proofs.YtnkdlkgannnfhaaGreatDoor
