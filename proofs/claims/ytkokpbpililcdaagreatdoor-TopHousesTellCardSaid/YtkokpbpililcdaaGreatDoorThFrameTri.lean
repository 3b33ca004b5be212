/- TopHousesTell is proved: for every input the law returns true, and its argument reads afterwards as it read before. Conditions: those of the given row alone. -/
import Derived.Test.YtkokpbpililcdaaGreatDoorThFrameTwo
set_option linter.unusedVariables false
set_option linter.unusedSimpArgs false
set_option maxRecDepth 100000
namespace Go.Proofs.YtkokpbpililcdaaGreatDoor
open Go Go.Eng Go.ChangeShapes Go.WideShapes Go.ChangeAt Go.RowKit
theorem Pa (hlaw : Pw 4) : Rows.TopHousesTellSaid :=
 OpenClaim.holds_of_wide 4 Tryz.f4 rfl rfl rfl rfl rfl rfl rfl ⟨rfl, rfl, rfl, rfl, rfl⟩ rfl rfl rfl rfl rfl G5 Tryz.func4 I6 Nl Nm
  (fun os started H enc _ => MX hlaw os started H enc)
end Go.Proofs.YtkokpbpililcdaaGreatDoor
set_option maxRecDepth 100000
namespace Go.Proofs.YtkokpbpililcdaaGreatDoor
open Go Go.Eng Go.ChangeShapes Go.WideShapes Go.ChangeAt Go.RowKit
theorem Dr : Tryz.pinned.checked.prog.wantsStandIn 22 = false := by kernel_rfl
theorem Iz : Tryz.pinned.checked.prog.mainIs = some (true, Rows.topHousesTellCard.stood.harness.2.toList) := by kernel_rfl
theorem JF : true = Tryz.pinned.checked.prog.looks [] := by kernel_rfl
theorem Rl : Rows.topHousesTellRow.wfByText (OpenSpec.ofChange Rows.topHousesTellSpec) = true := by kernel_rfl
theorem M7 : false = Rows.topHousesTellRow.goesBy Tryz.pinned.checked.prog := by kernel_rfl
theorem QI (fn : Func) (hfn : Tryz.pinned.checked.prog.funcs[4]? = some fn) (j t : Nat) (ht : fn.params[j]? = some t) : t = 22 := by
 obtain rfl : fn = Tryz.f4 := (Option.some.inj (Tryz.func4.symm.trans hfn)).symm; rw [Tryz.params4] at ht; simpa using Array.mem_of_getElem? ht
theorem NK (hlaw : Pw 4) : Rows.TopHousesTellCardSaid :=
 Claim7.holds_tied_plain_at .later [] [.data, .data, .data, .data, .sentinel, .sentinel, .pinned] true Rows.topHousesTellCard.stood.harness true (Pa hlaw) (fun _ h => by cases h) Rl (fun _ h => by cases h) topHousesTell_row_tie rfl ⟨rfl, rfl⟩ Iz rfl
  (fun f fn hf hfn => by
    have e : f = 4 := Option.some.inj (hf.symm.trans G5); rw [e] at hfn
    exact ⟨JF, fun j t ht => by rw [QI fn hfn j t ht]; exact Dr⟩) M7
end Go.Proofs.YtkokpbpililcdaaGreatDoor
