/- EntriesAgree is proved: for every input the law returns true, and its argument reads afterwards as it read before. Conditions: those of the given row alone. -/
import Derived.Test.YtophabkpfpbadaaGreatDoorEaFrameTwo
set_option linter.unusedVariables false
set_option linter.unusedSimpArgs false
set_option maxRecDepth 100000
namespace Go.Proofs.YtophabkpfpbadaaGreatDoor
open Go Go.Eng Go.ChangeShapes Go.WideShapes Go.ChangeAt Go.RowKit
theorem row4 (hlaw : Law 4) : Rows.EntriesAgreeSaid :=
 OpenClaim.holds_of_wide 4 Tryz.f4 rfl rfl rfl rfl rfl rfl rfl ⟨rfl, rfl, rfl, rfl, rfl⟩ rfl rfl rfl rfl rfl named4 Tryz.func4 closed4 inst4 wrap4
  (fun os started H enc _ => lift4 hlaw os started H enc)
end Go.Proofs.YtophabkpfpbadaaGreatDoor
set_option maxRecDepth 100000
namespace Go.Proofs.YtophabkpfpbadaaGreatDoor
open Go Go.Eng Go.ChangeShapes Go.WideShapes Go.ChangeAt Go.RowKit
theorem noStand22 : Tryz.pinned.checked.prog.wantsStandIn 22 = false := by kernel_rfl
theorem mainIs' : Tryz.pinned.checked.prog.mainIs = some (true, Rows.entriesAgreeCard.stood.harness.2.toList) := by kernel_rfl
theorem noLooks : true = Tryz.pinned.checked.prog.looks [] := by kernel_rfl
theorem wf4 : Rows.entriesAgreeRow.wfByText (OpenSpec.ofChange Rows.entriesAgreeSpec) = true := by kernel_rfl
theorem goes4 : false = Rows.entriesAgreeRow.goesBy Tryz.pinned.checked.prog := by kernel_rfl
theorem par4 (fn : Func) (hfn : Tryz.pinned.checked.prog.funcs[4]? = some fn) (j t : Nat) (ht : fn.params[j]? = some t) : t = 22 := by
 obtain rfl : fn = Tryz.f4 := (Option.some.inj (Tryz.func4.symm.trans hfn)).symm; rw [Tryz.params4] at ht; simpa using Array.mem_of_getElem? ht
theorem card4 (hlaw : Law 4) : Rows.EntriesAgreeCardSaid :=
 Claim7.holds_tied_plain_at .later [] [.data, .data, .data, .data, .sentinel, .sentinel, .pinned] true Rows.entriesAgreeCard.stood.harness true (row4 hlaw) (fun _ h => by cases h) wf4 (fun _ h => by cases h) entriesAgree_row_tie rfl ⟨rfl, rfl⟩ mainIs' rfl
  (fun f fn hf hfn => by
    have e : f = 4 := Option.some.inj (hf.symm.trans named4); rw [e] at hfn
    exact ⟨noLooks, fun j t ht => by rw [par4 fn hfn j t ht]; exact noStand22⟩) goes4
end Go.Proofs.YtophabkpfpbadaaGreatDoor
