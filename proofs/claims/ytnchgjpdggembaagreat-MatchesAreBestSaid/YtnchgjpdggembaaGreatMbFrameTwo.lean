/- MatchesAreBest is proved: for every input the law returns true, and its argument reads afterwards as it read before. Conditions: those of the given row alone. -/
import Derived.Test.YtnchgjpdggembaaGreatMbFrameFac
set_option linter.unusedVariables false
set_option linter.unusedSimpArgs false
set_option maxRecDepth 100000
namespace Go.Proofs.YtnchgjpdggembaaGreat
open Go Go.Eng Go.ChangeShapes Go.WideShapes Go.ChangeAt Go.RowKit
theorem own : ownKnob Tryz.prog.godebug = none := by kernel_rfl
theorem cells3 : Tryz.prog.cellsOf 3 = 1 := by kernel_rfl
theorem noInit3 : Tryz.prog.inits.idxOf? 3 = none := by kernel_rfl
theorem res3 : Tryz.f3.resultTypes = #[4] := by kernel_rfl
/-- The law's contract. -/
abbrev Law (f : FuncId) : Prop := ∀ (n : Nat) (L : Nat → Int), n ≤ maxLen → (∀ i, -2^63 ≤ L i ∧ L i < 2^63) → FSpec Tryz.prog f [.d (.ro 1 n fun i => [.int .i64 (L i)])] [] (fun x r => x = .d (.bool true) ∧ r = [])
theorem lift3 (hlaw : Law 3) (os : Os) (started : os.Started) (H : Type) (enc : TypeId × Value → H) :
    ReturnsInHanded {} Tryz.checked os 3 .any (Rows.matchesAreBestSpec.pre6 enc Tryz.prog Tryz.f3 Rows.matchesAreBestRow.domain false) (Rows.matchesAreBestSpec.post enc Tryz.prog Tryz.f3 false true false false) := by
  refine returnsInHanded_of_change (C := Tryz.checked) own started noInit3 Tryz.func3
    (ChangeSpec.witness6 (enc := enc) (C := Tryz.checked) false ⟨#[], #[.slice none 0 0], []⟩ 8 (by kernel_rfl) (by kernel_rfl) (by kernel_rfl) (by kernel_rfl)) ?_
  intro W base args ds gs before hval hW hcnd _
  exact post_law (P := Tryz.prog) Tryz.underlying22 Tryz.underlying3 cells3 Tryz.underlying4 Tryz.params3 res3 rfl (fun _ _ => rfl) hlaw hval hW
theorem named3 : Tryz.pinned.checked.prog.funcNamed Rows.matchesAreBestRow.func = some 3 := by kernel_rfl
theorem inst3 : Tryz.f3.isInstance Tryz.pinned.checked.prog Rows.matchesAreBestRow.origin Rows.matchesAreBestRow.targs := of_decide_eq_true (by kernel_rfl)
theorem wrap3 : Tryz.f3.isWrapper Tryz.pinned.checked.prog Rows.matchesAreBestRow.wrapper Rows.matchesAreBestRow.mainSum := by
  unfold Func.isWrapper; first | (rw [if_pos (by decide +kernel)]; kernel_rfl) | (rw [if_neg (by decide +kernel)]; exact ⟨rfl, rfl⟩)
theorem row3 (hlaw : Law 3) : Rows.matchesAreBestRow.holds Tryz.pinned (OpenSpec.ofChange Rows.matchesAreBestSpec) :=
  OpenClaim.holds_of_wide 3 Tryz.f3 rfl rfl rfl rfl rfl rfl rfl ⟨rfl, rfl, rfl, rfl, rfl⟩ rfl rfl rfl rfl rfl named3 Tryz.func3 closed3 inst3 wrap3
    (fun os started H enc _ => lift3 hlaw os started H enc)
end Go.Proofs.YtnchgjpdggembaaGreat
