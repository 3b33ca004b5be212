/- NoticesGrow is proved: for every input the law returns true, and its argument reads afterwards as it read before. Conditions: those of the given row alone. -/
import Derived.Test.YtnkdlkgannnfhaaNgFrameFac
set_option linter.unusedVariables false
set_option linter.unusedSimpArgs false
set_option maxRecDepth 100000
namespace Go.Proofs.Ytnkdlkgannnfhaa
open Go Go.Eng Go.ChangeShapes Go.WideShapes Go.ChangeAt Go.RowKit
theorem own : ownKnob Try.prog.godebug = none := by kernel_rfl
theorem cells3 : Try.prog.cellsOf 3 = 1 := by kernel_rfl
theorem noInit3 : Try.prog.inits.idxOf? 3 = none := by kernel_rfl
theorem res3 : Try.f3.resultTypes = #[4] := by kernel_rfl
/-- The law's contract. -/
abbrev Law (f : FuncId) : Prop := ∀ (n : Nat) (L : Nat → Int), n ≤ maxLen → (∀ i, -2^63 ≤ L i ∧ L i < 2^63) → FSpec Try.prog f [.d (.ro 1 n fun i => [.int .i64 (L i)])] [] (fun x r => x = .d (.bool true) ∧ r = [])
theorem lift3 (hlaw : Law 3) (os : Os) (started : os.Started) (H : Type) (enc : TypeId × Value → H) :
    ReturnsInHanded {} Try.checked os 3 .any (Rows.noticesGrowSpec.pre6 enc Try.prog Try.f3 Rows.noticesGrowRow.domain false) (Rows.noticesGrowSpec.post enc Try.prog Try.f3 false true false false) := by
  refine returnsInHanded_of_change (C := Try.checked) own started noInit3 Try.func3
    (ChangeSpec.witness6 (enc := enc) (C := Try.checked) false ⟨#[], #[.slice none 0 0], []⟩ 8 (by kernel_rfl) (by kernel_rfl) (by kernel_rfl) (by kernel_rfl)) ?_
  intro W base args ds gs before hval hW hcnd _
  exact post_law (P := Try.prog) Try.underlying22 Try.underlying3 cells3 Try.underlying4 Try.params3 res3 rfl (fun _ _ => rfl) hlaw hval hW
theorem named3 : Try.pinned.checked.prog.funcNamed Rows.noticesGrowRow.func = some 3 := by kernel_rfl
theorem inst3 : Try.f3.isInstance Try.pinned.checked.prog Rows.noticesGrowRow.origin Rows.noticesGrowRow.targs := of_decide_eq_true (by kernel_rfl)
theorem wrap3 : Try.f3.isWrapper Try.pinned.checked.prog Rows.noticesGrowRow.wrapper Rows.noticesGrowRow.mainSum := by
  unfold Func.isWrapper; first | (rw [if_pos (by decide +kernel)]; kernel_rfl) | (rw [if_neg (by decide +kernel)]; exact ⟨rfl, rfl⟩)
theorem row3 (hlaw : Law 3) : Rows.noticesGrowRow.holds Try.pinned (OpenSpec.ofChange Rows.noticesGrowSpec) :=
  OpenClaim.holds_of_wide 3 Try.f3 rfl rfl rfl rfl rfl rfl rfl ⟨rfl, rfl, rfl, rfl, rfl⟩ rfl rfl rfl rfl rfl named3 Try.func3 closed3 inst3 wrap3
    (fun os started H enc _ => lift3 hlaw os started H enc)
end Go.Proofs.Ytnkdlkgannnfhaa
