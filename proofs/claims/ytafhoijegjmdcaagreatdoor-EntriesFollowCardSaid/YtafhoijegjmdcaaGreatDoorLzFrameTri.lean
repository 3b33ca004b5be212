/- EntriesFollow is proved: for every input the law returns true, and its argument reads afterwards as it read before. Conditions: those of the given row alone. -/
import Derived.Test.YtafhoijegjmdcaaGreatDoorLzFrameTwo
set_option linter.unusedVariables false
set_option linter.unusedSimpArgs false
set_option maxRecDepth 100000
namespace Go.Proofs.YtafhoijegjmdcaaGreatDoor
open Go Go.Eng Go.ChangeShapes Go.WideShapes Go.ChangeAt Go.RowKit
theorem NF (hlaw : Oa 3) : Rows.EntriesFollowSaid :=
 OpenClaim.holds_of_wide 3 Tryz.f3 rfl rfl rfl rfl rfl rfl rfl ⟨rfl, rfl, rfl, rfl, rfl⟩ rfl rfl rfl rfl rfl Cq Tryz.func3 GE K2 J6
  (fun os started H enc _ => Kd hlaw os started H enc)
end Go.Proofs.YtafhoijegjmdcaaGreatDoor
set_option maxRecDepth 100000
namespace Go.Proofs.YtafhoijegjmdcaaGreatDoor
open Go Go.Eng Go.ChangeShapes Go.WideShapes Go.ChangeAt Go.RowKit
theorem Bh : Tryz.pinned.checked.prog.wantsStandIn 22 = false := by kernel_rfl
theorem GH : Tryz.pinned.checked.prog.mainIs = some (true, Rows.entriesFollowCard.stood.harness.2.toList) := by kernel_rfl
theorem Gc : true = Tryz.pinned.checked.prog.looks [] := by kernel_rfl
theorem OJ : Rows.entriesFollowRow.wfByText (OpenSpec.ofChange Rows.entriesFollowSpec) = true := by kernel_rfl
theorem Kv : false = Rows.entriesFollowRow.goesBy Tryz.pinned.checked.prog := by kernel_rfl
theorem N1 (fn : Func) (hfn : Tryz.pinned.checked.prog.funcs[3]? = some fn) (j t : Nat) (ht : fn.params[j]? = some t) : t = 22 := by
 obtain rfl : fn = Tryz.f3 := (Option.some.inj (Tryz.func3.symm.trans hfn)).symm; rw [Tryz.params3] at ht; simpa using Array.mem_of_getElem? ht
theorem Ll (hlaw : Oa 3) : Rows.EntriesFollowCardSaid :=
 Claim7.holds_tied_plain_at .later [] [.data, .data, .data, .data, .sentinel, .sentinel, .pinned] true Rows.entriesFollowCard.stood.harness true (NF hlaw) (fun _ h => by cases h) OJ (fun _ h => by cases h) entriesFollow_row_tie rfl ⟨rfl, rfl⟩ GH rfl
  (fun f fn hf hfn => by
    have e : f = 3 := Option.some.inj (hf.symm.trans Cq); rw [e] at hfn
    exact ⟨Gc, fun j t ht => by rw [N1 fn hfn j t ht]; exact Bh⟩) Kv
end Go.Proofs.YtafhoijegjmdcaaGreatDoor
