/- MarksChange is proved: for every input the law returns true, and its argument reads afterwards as it read before. Conditions: those of the given row alone. -/
import Derived.Test.YtnkdlkgannnfhaaGreatDoorMcFrameTwo
set_option linter.unusedVariables false
set_option linter.unusedSimpArgs false
set_option maxRecDepth 100000
namespace Go.Proofs.YtnkdlkgannnfhaaGreatDoor
open Go Go.Eng Go.ChangeShapes Go.WideShapes Go.ChangeAt Go.RowKit
theorem row11 (hlaw : Law 11) : Rows.MarksChangeSaid :=
    OpenClaim.holds_of_wide 11 Tryz.f11 rfl rfl rfl rfl rfl rfl rfl ⟨rfl, rfl, rfl, rfl, rfl⟩ rfl rfl rfl rfl rfl named11 Tryz.func11 closed11 inst11 wrap11
      (fun os started H enc _ => lift11 hlaw os started H enc)
end Go.Proofs.YtnkdlkgannnfhaaGreatDoor
set_option maxRecDepth 100000
namespace Go.Proofs.YtnkdlkgannnfhaaGreatDoor
open Go Go.Eng Go.ChangeShapes Go.WideShapes Go.ChangeAt Go.RowKit
theorem noStand22 : Tryz.pinned.checked.prog.wantsStandIn 22 = false := by kernel_rfl
theorem mainIs' : Tryz.pinned.checked.prog.mainIs = some (true, Rows.marksChangeCard.stood.harness.2.toList) := by kernel_rfl
theorem noLooks : false = Tryz.pinned.checked.prog.looks [] := by kernel_rfl
theorem wf11 : Rows.marksChangeRow.wfByText (OpenSpec.ofChange Rows.marksChangeSpec) = true := by kernel_rfl
theorem goes11 : false = Rows.marksChangeRow.goesBy Tryz.pinned.checked.prog := by kernel_rfl
theorem par11 (fn : Func) (hfn : Tryz.pinned.checked.prog.funcs[11]? = some fn) (j t : Nat) (ht : fn.params[j]? = some t) : t = 22 := by
  obtain rfl : fn = Tryz.f11 := (Option.some.inj (Tryz.func11.symm.trans hfn)).symm
  rw [Tryz.params11] at ht
  simpa using Array.mem_of_getElem? ht
theorem card11 (hlaw : Law 11) : Rows.MarksChangeCardSaid :=
  Claim7.holds_tied_plain_at .later [] [.data, .pinned] true Rows.marksChangeCard.stood.harness false (row11 hlaw) (fun _ h => by cases h) wf11 (fun _ h => by cases h) marksChange_row_tie rfl ⟨rfl, rfl⟩ mainIs' rfl
    (fun f fn hf hfn => by
      have e : f = 11 := Option.some.inj (hf.symm.trans named11)
      rw [e] at hfn
      exact ⟨noLooks, fun j t ht => by rw [par11 fn hfn j t ht]; exact noStand22⟩) goes11
end Go.Proofs.YtnkdlkgannnfhaaGreatDoor
