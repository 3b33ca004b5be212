/- MoveTexts is proved: for every input the law returns true, and its argument reads afterwards as it read before. Conditions: those of the given row alone. -/
import Derived.Test.YtgeakdcbpjmkbaaGreatDoorXmtFrameTwo
set_option linter.unusedVariables false
set_option linter.unusedSimpArgs false
set_option maxRecDepth 100000
namespace Go.Proofs.YtgeakdcbpjmkbaaGreatDoor
open Go Go.Eng Go.ChangeShapes Go.WideShapes Go.ChangeAt Go.RowKit
theorem row6 (hlaw : Law 6) : Rows.MoveTextsSaid :=
 OpenClaim.holds_of_wide 6 Tryz.f6 rfl rfl rfl rfl rfl rfl rfl ⟨rfl, rfl, rfl, rfl, rfl⟩ rfl rfl rfl rfl rfl named6 Tryz.func6 closed6 inst6 wrap6
  (fun os started H enc _ => lift6 hlaw os started H enc)
end Go.Proofs.YtgeakdcbpjmkbaaGreatDoor
set_option maxRecDepth 100000
namespace Go.Proofs.YtgeakdcbpjmkbaaGreatDoor
open Go Go.Eng Go.ChangeShapes Go.WideShapes Go.ChangeAt Go.RowKit
theorem noStand22 : Tryz.pinned.checked.prog.wantsStandIn 22 = false := by kernel_rfl
theorem mainIs' : Tryz.pinned.checked.prog.mainIs = some (true, Rows.moveTextsCard.stood.harness.2.toList) := by kernel_rfl
theorem noLooks : true = Tryz.pinned.checked.prog.looks [] := by kernel_rfl
theorem wf6 : Rows.moveTextsRow.wfByText (OpenSpec.ofChange Rows.moveTextsSpec) = true := by kernel_rfl
theorem goes6 : false = Rows.moveTextsRow.goesBy Tryz.pinned.checked.prog := by kernel_rfl
theorem par6 (fn : Func) (hfn : Tryz.pinned.checked.prog.funcs[6]? = some fn) (j t : Nat) (ht : fn.params[j]? = some t) : t = 22 := by
 obtain rfl : fn = Tryz.f6 := (Option.some.inj (Tryz.func6.symm.trans hfn)).symm
 rw [Tryz.params6] at ht
 simpa using Array.mem_of_getElem? ht
theorem card6 (hlaw : Law 6) : Rows.MoveTextsCardSaid :=
 Claim7.holds_tied_plain_at .later [] [.data, .data, .data, .data, .sentinel, .sentinel, .pinned] true Rows.moveTextsCard.stood.harness true (row6 hlaw) (fun _ h => by cases h) wf6 (fun _ h => by cases h) moveTexts_row_tie rfl ⟨rfl, rfl⟩ mainIs' rfl
  (fun f fn hf hfn => by
    have e : f = 6 := Option.some.inj (hf.symm.trans named6)
    rw [e] at hfn
    exact ⟨noLooks, fun j t ht => by rw [par6 fn hfn j t ht]; exact noStand22⟩) goes6
end Go.Proofs.YtgeakdcbpjmkbaaGreatDoor
