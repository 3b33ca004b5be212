/- MarkChecks is proved: for every input the law returns true, and its argument reads afterwards as it read before. Conditions: those of the given row alone. -/
import Derived.Test.YtellmmmohdjpeaaDoorMcFrameTwo
set_option linter.unusedVariables false
set_option linter.unusedSimpArgs false
set_option maxRecDepth 100000
namespace Go.Proofs.YtellmmmohdjpeaaDoor
open Go Go.Eng Go.ChangeShapes Go.WideShapes Go.ChangeAt Go.RowKit
theorem row12 (hlaw : Law 12) : Rows.MarkChecksSaid :=
    OpenClaim.holds_of_wide 12 Tryd.f12 rfl rfl rfl rfl rfl rfl rfl ⟨rfl, rfl, rfl, rfl, rfl⟩ rfl rfl rfl rfl rfl named12 Tryd.func12 closed12 inst12 wrap12
      (fun os started H enc _ => lift12 hlaw os started H enc)
end Go.Proofs.YtellmmmohdjpeaaDoor
set_option maxRecDepth 100000
namespace Go.Proofs.YtellmmmohdjpeaaDoor
open Go Go.Eng Go.ChangeShapes Go.WideShapes Go.ChangeAt Go.RowKit
theorem noStand22 : Tryd.pinned.checked.prog.wantsStandIn 22 = false := by kernel_rfl
theorem mainIs' : Tryd.pinned.checked.prog.mainIs = some (true, Rows.markChecksCard.stood.harness.2.toList) := by kernel_rfl
theorem noLooks : false = Tryd.pinned.checked.prog.looks [] := by kernel_rfl
theorem wf12 : Rows.markChecksRow.wfByText (OpenSpec.ofChange Rows.markChecksSpec) = true := by kernel_rfl
theorem goes12 : false = Rows.markChecksRow.goesBy Tryd.pinned.checked.prog := by kernel_rfl
theorem par12 (fn : Func) (hfn : Tryd.pinned.checked.prog.funcs[12]? = some fn) (j t : Nat) (ht : fn.params[j]? = some t) : t = 22 := by
  obtain rfl : fn = Tryd.f12 := (Option.some.inj (Tryd.func12.symm.trans hfn)).symm
  rw [Tryd.params12] at ht
  simpa using Array.mem_of_getElem? ht
theorem card12 (hlaw : Law 12) : Rows.MarkChecksCardSaid :=
  Claim7.holds_tied_plain_at .later [] [.data, .pinned] true Rows.markChecksCard.stood.harness false (row12 hlaw) (fun _ h => by cases h) wf12 (fun _ h => by cases h) markChecks_row_tie rfl ⟨rfl, rfl⟩ mainIs' rfl
    (fun f fn hf hfn => by
      have e : f = 12 := Option.some.inj (hf.symm.trans named12)
      rw [e] at hfn
      exact ⟨noLooks, fun j t ht => by rw [par12 fn hfn j t ht]; exact noStand22⟩) goes12
end Go.Proofs.YtellmmmohdjpeaaDoor
