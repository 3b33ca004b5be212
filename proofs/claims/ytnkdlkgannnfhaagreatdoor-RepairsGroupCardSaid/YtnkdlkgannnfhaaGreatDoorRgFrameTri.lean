/- RepairsGroup is proved: for every input the law returns true, and its argument reads afterwards as it read before. Conditions: those of the given row alone. -/
import Derived.Test.YtnkdlkgannnfhaaGreatDoorRgFrameTwo
set_option linter.unusedVariables false
set_option linter.unusedSimpArgs false
set_option maxRecDepth 100000
namespace Go.Proofs.YtnkdlkgannnfhaaGreatDoor
open Go Go.Eng Go.ChangeShapes Go.WideShapes Go.ChangeAt Go.RowKit
theorem row14 (hlaw : Law 14) : Rows.RepairsGroupSaid :=
    OpenClaim.holds_of_wide 14 Tryz.f14 rfl rfl rfl rfl rfl rfl rfl ⟨rfl, rfl, rfl, rfl, rfl⟩ rfl rfl rfl rfl rfl named14 Tryz.func14 closed14 inst14 wrap14
      (fun os started H enc _ => lift14 hlaw os started H enc)
end Go.Proofs.YtnkdlkgannnfhaaGreatDoor
set_option maxRecDepth 100000
namespace Go.Proofs.YtnkdlkgannnfhaaGreatDoor
open Go Go.Eng Go.ChangeShapes Go.WideShapes Go.ChangeAt Go.RowKit
theorem noStand22 : Tryz.pinned.checked.prog.wantsStandIn 22 = false := by kernel_rfl
theorem mainIs' : Tryz.pinned.checked.prog.mainIs = some (true, Rows.repairsGroupCard.stood.harness.2.toList) := by kernel_rfl
theorem noLooks : false = Tryz.pinned.checked.prog.looks [] := by kernel_rfl
theorem wf14 : Rows.repairsGroupRow.wfByText (OpenSpec.ofChange Rows.repairsGroupSpec) = true := by kernel_rfl
theorem goes14 : false = Rows.repairsGroupRow.goesBy Tryz.pinned.checked.prog := by kernel_rfl
theorem par14 (fn : Func) (hfn : Tryz.pinned.checked.prog.funcs[14]? = some fn) (j t : Nat) (ht : fn.params[j]? = some t) : t = 22 := by
  obtain rfl : fn = Tryz.f14 := (Option.some.inj (Tryz.func14.symm.trans hfn)).symm
  rw [Tryz.params14] at ht
  simpa using Array.mem_of_getElem? ht
theorem card14 (hlaw : Law 14) : Rows.RepairsGroupCardSaid :=
  Claim7.holds_tied_plain_at .later [] [.data, .pinned] true Rows.repairsGroupCard.stood.harness false (row14 hlaw) (fun _ h => by cases h) wf14 (fun _ h => by cases h) repairsGroup_row_tie rfl ⟨rfl, rfl⟩ mainIs' rfl
    (fun f fn hf hfn => by
      have e : f = 14 := Option.some.inj (hf.symm.trans named14)
      rw [e] at hfn
      exact ⟨noLooks, fun j t ht => by rw [par14 fn hfn j t ht]; exact noStand22⟩) goes14
end Go.Proofs.YtnkdlkgannnfhaaGreatDoor
