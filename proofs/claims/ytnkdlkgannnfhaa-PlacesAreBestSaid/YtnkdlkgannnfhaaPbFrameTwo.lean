/- PlacesAreBest is proved: for every input the law returns true, and its argument reads afterwards as it read before. Conditions: those of the given row alone. -/
import Derived.Test.YtnkdlkgannnfhaaPbFrameFac
set_option linter.unusedVariables false
set_option linter.unusedSimpArgs false
set_option maxRecDepth 100000
namespace Go.Proofs.Ytnkdlkgannnfhaa
open Go Go.Eng Go.ChangeShapes Go.WideShapes Go.ChangeAt Go.RowKit
theorem own : ownKnob Try.prog.godebug = none := by kernel_rfl
theorem cells3 : Try.prog.cellsOf 3 = 1 := by kernel_rfl
theorem noInit4 : Try.prog.inits.idxOf? 4 = none := by kernel_rfl
theorem res4 : Try.f4.resultTypes = #[4] := by kernel_rfl
/-- The law's contract. -/
abbrev Law (f : FuncId) : Prop := ∀ (n : Nat) (L : Nat → Int), n ≤ maxLen → (∀ i, -2^63 ≤ L i ∧ L i < 2^63) → FSpec Try.prog f [.d (.ro 1 n fun i => [.int .i64 (L i)])] [] (fun x r => x = .d (.bool true) ∧ r = [])
theorem lift4 (hlaw : Law 4) (os : Os) (started : os.Started) (H : Type) (enc : TypeId × Value → H) :
    ReturnsInHanded {} Try.checked os 4 .any (Rows.placesAreBestSpec.pre6 enc Try.prog Try.f4 Rows.placesAreBestRow.domain false) (Rows.placesAreBestSpec.post enc Try.prog Try.f4 false true false false) := by
  refine returnsInHanded_of_change (C := Try.checked) own started noInit4 Try.func4
    (ChangeSpec.witness6 (enc := enc) (C := Try.checked) false ⟨#[], #[.slice none 0 0], []⟩ 8 (by kernel_rfl) (by kernel_rfl) (by kernel_rfl) (by kernel_rfl)) ?_
  intro W base args ds gs before hval hW hcnd _
  exact post_law (P := Try.prog) Try.underlying22 Try.underlying3 cells3 Try.underlying4 Try.params4 res4 rfl (fun _ _ => rfl) hlaw hval hW
theorem named4 : Try.pinned.checked.prog.funcNamed Rows.placesAreBestRow.func = some 4 := by kernel_rfl
theorem inst4 : Try.f4.isInstance Try.pinned.checked.prog Rows.placesAreBestRow.origin Rows.placesAreBestRow.targs := of_decide_eq_true (by kernel_rfl)
theorem wrap4 : Try.f4.isWrapper Try.pinned.checked.prog Rows.placesAreBestRow.wrapper Rows.placesAreBestRow.mainSum := by
  unfold Func.isWrapper; first | (rw [if_pos (by decide +kernel)]; kernel_rfl) | (rw [if_neg (by decide +kernel)]; exact ⟨rfl, rfl⟩)
theorem row4 (hlaw : Law 4) : Rows.placesAreBestRow.holds Try.pinned (OpenSpec.ofChange Rows.placesAreBestSpec) :=
  OpenClaim.holds_of_wide 4 Try.f4 rfl rfl rfl rfl rfl rfl rfl ⟨rfl, rfl, rfl, rfl, rfl⟩ rfl rfl rfl rfl rfl named4 Try.func4 closed4 inst4 wrap4
    (fun os started H enc _ => lift4 hlaw os started H enc)
end Go.Proofs.Ytnkdlkgannnfhaa
