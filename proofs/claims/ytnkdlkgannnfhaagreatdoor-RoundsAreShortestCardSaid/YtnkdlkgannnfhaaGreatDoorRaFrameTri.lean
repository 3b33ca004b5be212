/- RoundsAreShortest is proved: for every input the law returns true, and its argument reads afterwards as it read before. Conditions: those of the given row alone. -/
import Derived.Test.YtnkdlkgannnfhaaGreatDoorRaFrameTwo
set_option linter.unusedVariables false
set_option linter.unusedSimpArgs false
set_option maxRecDepth 100000
namespace Go.Proofs.YtnkdlkgannnfhaaGreatDoor
open Go Go.Eng Go.ChangeShapes Go.WideShapes Go.ChangeAt Go.RowKit
theorem row15 (hlaw : Law 15) : Rows.RoundsAreShortestSaid :=
    OpenClaim.holds_of_wide 15 Tryz.f15 rfl rfl rfl rfl rfl rfl rfl ⟨rfl, rfl, rfl, rfl, rfl⟩ rfl rfl rfl rfl rfl named15 Tryz.func15 closed15 inst15 wrap15
      (fun os started H enc _ => lift15 hlaw os started H enc)
end Go.Proofs.YtnkdlkgannnfhaaGreatDoor
set_option maxRecDepth 100000
namespace Go.Proofs.YtnkdlkgannnfhaaGreatDoor
open Go Go.Eng Go.ChangeShapes Go.WideShapes Go.ChangeAt Go.RowKit
theorem noStand22 : Tryz.pinned.checked.prog.wantsStandIn 22 = false := by kernel_rfl
theorem mainIs' : Tryz.pinned.checked.prog.mainIs = some (true, Rows.roundsAreShortestCard.stood.harness.2.toList) := by kernel_rfl
theorem noLooks : false = Tryz.pinned.checked.prog.looks [] := by kernel_rfl
theorem wf15 : Rows.roundsAreShortestRow.wfByText (OpenSpec.ofChange Rows.roundsAreShortestSpec) = true := by kernel_rfl
theorem goes15 : false = Rows.roundsAreShortestRow.goesBy Tryz.pinned.checked.prog := by kernel_rfl
theorem par15 (fn : Func) (hfn : Tryz.pinned.checked.prog.funcs[15]? = some fn) (j t : Nat) (ht : fn.params[j]? = some t) : t = 22 := by
  obtain rfl : fn = Tryz.f15 := (Option.some.inj (Tryz.func15.symm.trans hfn)).symm
  rw [Tryz.params15] at ht
  simpa using Array.mem_of_getElem? ht
theorem card15 (hlaw : Law 15) : Rows.RoundsAreShortestCardSaid :=
  Claim7.holds_tied_plain_at .later [] [.data, .pinned] true Rows.roundsAreShortestCard.stood.harness false (row15 hlaw) (fun _ h => by cases h) wf15 (fun _ h => by cases h) roundsAreShortest_row_tie rfl ⟨rfl, rfl⟩ mainIs' rfl
    (fun f fn hf hfn => by
      have e : f = 15 := Option.some.inj (hf.symm.trans named15)
      rw [e] at hfn
      exact ⟨noLooks, fun j t ht => by rw [par15 fn hfn j t ht]; exact noStand22⟩) goes15
end Go.Proofs.YtnkdlkgannnfhaaGreatDoor
