/- MarksComeBack is proved: for every input the law returns true, and its argument reads afterwards as it read before. Conditions: those of the given row alone. -/
import Derived.Test.YtgeakdcbpjmkbaaGreatDoorXmbFrameTwo
set_option linter.unusedVariables false
set_option linter.unusedSimpArgs false
set_option maxRecDepth 100000
namespace Go.Proofs.YtgeakdcbpjmkbaaGreatDoor
open Go Go.Eng Go.ChangeShapes Go.WideShapes Go.ChangeAt Go.RowKit
theorem row8 (hlaw : Law 8) : Rows.MarksComeBackSaid :=
 OpenClaim.holds_of_wide 8 Tryz.f8 rfl rfl rfl rfl rfl rfl rfl ⟨rfl, rfl, rfl, rfl, rfl⟩ rfl rfl rfl rfl rfl named8 Tryz.func8 closed8 inst8 wrap8
  (fun os started H enc _ => lift8 hlaw os started H enc)
end Go.Proofs.YtgeakdcbpjmkbaaGreatDoor
set_option maxRecDepth 100000
namespace Go.Proofs.YtgeakdcbpjmkbaaGreatDoor
open Go Go.Eng Go.ChangeShapes Go.WideShapes Go.ChangeAt Go.RowKit
theorem noStand22 : Tryz.pinned.checked.prog.wantsStandIn 22 = false := by kernel_rfl
theorem mainIs' : Tryz.pinned.checked.prog.mainIs = some (true, Rows.marksComeBackCard.stood.harness.2.toList) := by kernel_rfl
theorem noLooks : true = Tryz.pinned.checked.prog.looks [] := by kernel_rfl
theorem wf8 : Rows.marksComeBackRow.wfByText (OpenSpec.ofChange Rows.marksComeBackSpec) = true := by kernel_rfl
theorem goes8 : false = Rows.marksComeBackRow.goesBy Tryz.pinned.checked.prog := by kernel_rfl
theorem par8 (fn : Func) (hfn : Tryz.pinned.checked.prog.funcs[8]? = some fn) (j t : Nat) (ht : fn.params[j]? = some t) : t = 22 := by
 obtain rfl : fn = Tryz.f8 := (Option.some.inj (Tryz.func8.symm.trans hfn)).symm
 rw [Tryz.params8] at ht
 simpa using Array.mem_of_getElem? ht
theorem card8 (hlaw : Law 8) : Rows.MarksComeBackCardSaid :=
 Claim7.holds_tied_plain_at .later [] [.data, .data, .data, .data, .sentinel, .sentinel, .pinned] true Rows.marksComeBackCard.stood.harness true (row8 hlaw) (fun _ h => by cases h) wf8 (fun _ h => by cases h) marksComeBack_row_tie rfl ⟨rfl, rfl⟩ mainIs' rfl
  (fun f fn hf hfn => by
    have e : f = 8 := Option.some.inj (hf.symm.trans named8)
    rw [e] at hfn
    exact ⟨noLooks, fun j t ht => by rw [par8 fn hfn j t ht]; exact noStand22⟩) goes8
end Go.Proofs.YtgeakdcbpjmkbaaGreatDoor
