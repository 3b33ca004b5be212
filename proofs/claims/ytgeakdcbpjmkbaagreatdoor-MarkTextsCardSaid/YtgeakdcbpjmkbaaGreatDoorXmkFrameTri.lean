/- MarkTexts is proved: for every input the law returns true, and its argument reads afterwards as it read before. Conditions: those of the given row alone. -/
import Derived.Test.YtgeakdcbpjmkbaaGreatDoorXmkFrameTwo
set_option linter.unusedVariables false
set_option linter.unusedSimpArgs false
set_option maxRecDepth 100000
namespace Go.Proofs.YtgeakdcbpjmkbaaGreatDoor
open Go Go.Eng Go.ChangeShapes Go.WideShapes Go.ChangeAt Go.RowKit
theorem row7 (hlaw : Law 7) : Rows.MarkTextsSaid :=
 OpenClaim.holds_of_wide 7 Tryz.f7 rfl rfl rfl rfl rfl rfl rfl ⟨rfl, rfl, rfl, rfl, rfl⟩ rfl rfl rfl rfl rfl named7 Tryz.func7 closed7 inst7 wrap7
  (fun os started H enc _ => lift7 hlaw os started H enc)
end Go.Proofs.YtgeakdcbpjmkbaaGreatDoor
set_option maxRecDepth 100000
namespace Go.Proofs.YtgeakdcbpjmkbaaGreatDoor
open Go Go.Eng Go.ChangeShapes Go.WideShapes Go.ChangeAt Go.RowKit
theorem noStand22 : Tryz.pinned.checked.prog.wantsStandIn 22 = false := by kernel_rfl
theorem mainIs' : Tryz.pinned.checked.prog.mainIs = some (true, Rows.markTextsCard.stood.harness.2.toList) := by kernel_rfl
theorem noLooks : true = Tryz.pinned.checked.prog.looks [] := by kernel_rfl
theorem wf7 : Rows.markTextsRow.wfByText (OpenSpec.ofChange Rows.markTextsSpec) = true := by kernel_rfl
theorem goes7 : false = Rows.markTextsRow.goesBy Tryz.pinned.checked.prog := by kernel_rfl
theorem par7 (fn : Func) (hfn : Tryz.pinned.checked.prog.funcs[7]? = some fn) (j t : Nat) (ht : fn.params[j]? = some t) : t = 22 := by
 obtain rfl : fn = Tryz.f7 := (Option.some.inj (Tryz.func7.symm.trans hfn)).symm
 rw [Tryz.params7] at ht
 simpa using Array.mem_of_getElem? ht
theorem card7 (hlaw : Law 7) : Rows.MarkTextsCardSaid :=
 Claim7.holds_tied_plain_at .later [] [.data, .data, .data, .data, .sentinel, .sentinel, .pinned] true Rows.markTextsCard.stood.harness true (row7 hlaw) (fun _ h => by cases h) wf7 (fun _ h => by cases h) markTexts_row_tie rfl ⟨rfl, rfl⟩ mainIs' rfl
  (fun f fn hf hfn => by
    have e : f = 7 := Option.some.inj (hf.symm.trans named7)
    rw [e] at hfn
    exact ⟨noLooks, fun j t ht => by rw [par7 fn hfn j t ht]; exact noStand22⟩) goes7
end Go.Proofs.YtgeakdcbpjmkbaaGreatDoor
