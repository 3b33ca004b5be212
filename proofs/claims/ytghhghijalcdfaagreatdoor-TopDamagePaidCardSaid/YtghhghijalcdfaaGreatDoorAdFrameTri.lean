/- TopDamagePaid is proved: for every input the law returns true, and its argument reads afterwards as it read before. Conditions: those of the given row alone. -/
import Derived.Test.YtghhghijalcdfaaGreatDoorAdFrameTwo
set_option linter.unusedVariables false
set_option linter.unusedSimpArgs false
set_option maxRecDepth 100000
namespace Go.Proofs.YtghhghijalcdfaaGreatDoor
open Go Go.Eng Go.ChangeShapes Go.WideShapes Go.ChangeAt Go.RowKit
theorem row3 (hlaw : Law 3) : Rows.TopDamagePaidSaid :=
 OpenClaim.holds_of_wide 3 Tryz.f3 rfl rfl rfl rfl rfl rfl rfl ⟨rfl, rfl, rfl, rfl, rfl⟩ rfl rfl rfl rfl rfl named3 Tryz.func3 closed3 inst3 wrap3
  (fun os started H enc _ => lift3 hlaw os started H enc)
end Go.Proofs.YtghhghijalcdfaaGreatDoor
set_option maxRecDepth 100000
namespace Go.Proofs.YtghhghijalcdfaaGreatDoor
open Go Go.Eng Go.ChangeShapes Go.WideShapes Go.ChangeAt Go.RowKit
theorem noStand22 : Tryz.pinned.checked.prog.wantsStandIn 22 = false := by kernel_rfl
theorem mainIs' : Tryz.pinned.checked.prog.mainIs = some (true, Rows.topDamagePaidCard.stood.harness.2.toList) := by kernel_rfl
theorem noLooks : true = Tryz.pinned.checked.prog.looks [] := by kernel_rfl
theorem wf3 : Rows.topDamagePaidRow.wfByText (OpenSpec.ofChange Rows.topDamagePaidSpec) = true := by kernel_rfl
theorem goes3 : false = Rows.topDamagePaidRow.goesBy Tryz.pinned.checked.prog := by kernel_rfl
theorem par3 (fn : Func) (hfn : Tryz.pinned.checked.prog.funcs[3]? = some fn) (j t : Nat) (ht : fn.params[j]? = some t) : t = 22 := by
 obtain rfl : fn = Tryz.f3 := (Option.some.inj (Tryz.func3.symm.trans hfn)).symm; rw [Tryz.params3] at ht; simpa using Array.mem_of_getElem? ht
theorem card3 (hlaw : Law 3) : Rows.TopDamagePaidCardSaid :=
 Claim7.holds_tied_plain_at .later [] [.data, .data, .data, .data, .sentinel, .sentinel, .pinned] true Rows.topDamagePaidCard.stood.harness true (row3 hlaw) (fun _ h => by cases h) wf3 (fun _ h => by cases h) topDamagePaid_row_tie rfl ⟨rfl, rfl⟩ mainIs' rfl
  (fun f fn hf hfn => by
    have e : f = 3 := Option.some.inj (hf.symm.trans named3); rw [e] at hfn
    exact ⟨noLooks, fun j t ht => by rw [par3 fn hfn j t ht]; exact noStand22⟩) goes3
end Go.Proofs.YtghhghijalcdfaaGreatDoor
