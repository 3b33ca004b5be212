/- PlacesCheck is proved: for every input the law returns true, and its argument reads afterwards as it read before. Conditions: those of the given row alone. -/
import Derived.Test.YtellmmmohdjpeaaDoorPcFrameTwo
set_option linter.unusedVariables false
set_option linter.unusedSimpArgs false
set_option maxRecDepth 100000
namespace Go.Proofs.YtellmmmohdjpeaaDoor
open Go Go.Eng Go.ChangeShapes Go.WideShapes Go.ChangeAt Go.RowKit
theorem row10 (hlaw : Law 10) : Rows.PlacesCheckSaid :=
    OpenClaim.holds_of_wide 10 Tryd.f10 rfl rfl rfl rfl rfl rfl rfl ⟨rfl, rfl, rfl, rfl, rfl⟩ rfl rfl rfl rfl rfl named10 Tryd.func10 closed10 inst10 wrap10
      (fun os started H enc _ => lift10 hlaw os started H enc)
end Go.Proofs.YtellmmmohdjpeaaDoor
set_option maxRecDepth 100000
namespace Go.Proofs.YtellmmmohdjpeaaDoor
open Go Go.Eng Go.ChangeShapes Go.WideShapes Go.ChangeAt Go.RowKit
theorem noStand22 : Tryd.pinned.checked.prog.wantsStandIn 22 = false := by kernel_rfl
theorem mainIs' : Tryd.pinned.checked.prog.mainIs = some (true, Rows.placesCheckCard.stood.harness.2.toList) := by kernel_rfl
theorem noLooks : false = Tryd.pinned.checked.prog.looks [] := by kernel_rfl
theorem wf10 : Rows.placesCheckRow.wfByText (OpenSpec.ofChange Rows.placesCheckSpec) = true := by kernel_rfl
theorem goes10 : false = Rows.placesCheckRow.goesBy Tryd.pinned.checked.prog := by kernel_rfl
theorem par10 (fn : Func) (hfn : Tryd.pinned.checked.prog.funcs[10]? = some fn) (j t : Nat) (ht : fn.params[j]? = some t) : t = 22 := by
  obtain rfl : fn = Tryd.f10 := (Option.some.inj (Tryd.func10.symm.trans hfn)).symm
  rw [Tryd.params10] at ht
  simpa using Array.mem_of_getElem? ht
theorem card10 (hlaw : Law 10) : Rows.PlacesCheckCardSaid :=
  Claim7.holds_tied_plain_at .later [] [.data, .pinned] true Rows.placesCheckCard.stood.harness false (row10 hlaw) (fun _ h => by cases h) wf10 (fun _ h => by cases h) placesCheck_row_tie rfl ⟨rfl, rfl⟩ mainIs' rfl
    (fun f fn hf hfn => by
      have e : f = 10 := Option.some.inj (hf.symm.trans named10)
      rw [e] at hfn
      exact ⟨noLooks, fun j t ht => by rw [par10 fn hfn j t ht]; exact noStand22⟩) goes10
end Go.Proofs.YtellmmmohdjpeaaDoor
