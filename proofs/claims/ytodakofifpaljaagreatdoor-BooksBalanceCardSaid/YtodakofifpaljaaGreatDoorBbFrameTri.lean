/- BooksBalance is proved: for every input the law returns true, and its argument reads afterwards as it read before. Conditions: those of the given row alone. -/
import Derived.Test.YtodakofifpaljaaGreatDoorBbFrameTwo
set_option linter.unusedVariables false
set_option linter.unusedSimpArgs false
set_option maxRecDepth 100000
namespace Go.Proofs.YtodakofifpaljaaGreatDoor
open Go Go.Eng Go.ChangeShapes Go.WideShapes Go.ChangeAt Go.RowKit
theorem O3 (hlaw : Qc 3) : Rows.BooksBalanceSaid :=
 OpenClaim.holds_of_wide 3 Tryz.f3 rfl rfl rfl rfl rfl rfl rfl ⟨rfl, rfl, rfl, rfl, rfl⟩ rfl rfl rfl rfl rfl Fv Tryz.func3 H0 MI M2
  (fun os started H enc _ => NC hlaw os started H enc)
end Go.Proofs.YtodakofifpaljaaGreatDoor
set_option maxRecDepth 100000
namespace Go.Proofs.YtodakofifpaljaaGreatDoor
open Go Go.Eng Go.ChangeShapes Go.WideShapes Go.ChangeAt Go.RowKit
theorem Dr : Tryz.pinned.checked.prog.wantsStandIn 22 = false := by kernel_rfl
theorem Ix : Tryz.pinned.checked.prog.mainIs = some (true, Rows.booksBalanceCard.stood.harness.2.toList) := by kernel_rfl
theorem Iz : true = Tryz.pinned.checked.prog.looks [] := by kernel_rfl
theorem Rl : Rows.booksBalanceRow.wfByText (OpenSpec.ofChange Rows.booksBalanceSpec) = true := by kernel_rfl
theorem Nt : false = Rows.booksBalanceRow.goesBy Tryz.pinned.checked.prog := by kernel_rfl
theorem OB (fn : Func) (hfn : Tryz.pinned.checked.prog.funcs[3]? = some fn) (j t : Nat) (ht : fn.params[j]? = some t) : t = 22 := by
 obtain rfl : fn = Tryz.f3 := (Option.some.inj (Tryz.func3.symm.trans hfn)).symm; rw [Tryz.params3] at ht; simpa using Array.mem_of_getElem? ht
theorem NU (hlaw : Qc 3) : Rows.BooksBalanceCardSaid :=
 Claim7.holds_tied_plain_at .later [] [.data, .data, .data, .data, .sentinel, .sentinel, .pinned] true Rows.booksBalanceCard.stood.harness true (O3 hlaw) (fun _ h => by cases h) Rl (fun _ h => by cases h) booksBalance_row_tie rfl ⟨rfl, rfl⟩ Ix rfl
  (fun f fn hf hfn => by
    have e : f = 3 := Option.some.inj (hf.symm.trans Fv); rw [e] at hfn
    exact ⟨Iz, fun j t ht => by rw [OB fn hfn j t ht]; exact Dr⟩) Nt
end Go.Proofs.YtodakofifpaljaaGreatDoor
