/- PlansLeast is proved: for every input the law returns true, and its argument reads afterwards as it read before. Conditions: those of the given row alone. -/
import Derived.Test.YteehenjdddlnnaaDoorPlFrameFac
set_option linter.unusedVariables false
set_option linter.unusedSimpArgs false
set_option maxRecDepth 100000
namespace Go.Proofs.YteehenjdddlnnaaDoor
open Go Go.Eng Go.ChangeShapes Go.WideShapes Go.ChangeAt Go.RowKit
theorem own : ownKnob Tryd.prog.godebug = none := by kernel_rfl
theorem cells3 : Tryd.prog.cellsOf 3 = 1 := by kernel_rfl
theorem noInit3 : Tryd.prog.inits.idxOf? 3 = none := by kernel_rfl
theorem res3 : Tryd.f3.resultTypes = #[4] := by kernel_rfl
theorem wit3 (os : Os) {H : Type} (enc : TypeId × Value → H) (started : os.Started) : ∃ (w : World) (tape : Tape) (i : Input), w.os = os ∧ (w.forCall tape i).Shaped Tryd.checked.prog ∧ i.vars = [] ∧ Input.okWide Tryd.checked.prog (w.forCall tape i) .any w.heap.size 3 i ∧
 ((Rows.plansLeastSpec.pre enc Tryd.checked.prog Tryd.f3 [] false (w.forCall tape i).memory i.args ∧ laidMetH Tryd.prog Rows.plansLeastRow.laid (w.forCall tape i).memory) ∧ sizedMet enc Tryd.checked.prog Tryd.f3 (OpenSpec.ofChange Rows.plansLeastSpec) false (w.forCall tape i).memory i.args) ∧ Assume.holds {} Tryd.checked.prog (lone (Frame.enter Tryd.checked.prog 3 i.args .normal) [] (w.forCall tape i)) :=
 ChangeSpec.witness_shaped (enc := enc) (C := Tryd.checked) (os := os) (X := fun w _ => laidMetH Tryd.prog Rows.plansLeastRow.laid w) false (World.laidAll Tryd.prog os Rows.plansLeastRow.laid) #[.slice none 0 0] 8 (World.laidAll_os _ _ _)
  (World.shaped_of_ZipB (by kernel_rfl) (by kernel_rfl)) (by kernel_rfl) (by kernel_rfl) (by kernel_rfl)
  (by rw [MakeChecks.laidMetH_plain _ _ _ (by kernel_rfl)]; exact laidMet_laidAll _ (by kernel_rfl) (by kernel_rfl))
abbrev Law (f : FuncId) : Prop := ∀ (n : Nat) (L : Nat → Int), n ≤ maxLen → (∀ i, -2^63 ≤ L i ∧ L i < 2^63) → FSpec Tryd.prog f [.d (.ro 1 n fun i => [.int .i64 (L i)])] [] (fun x r => x = .d (.bool true) ∧ r = [])
theorem lift3 (hlaw : Law 3) (os : Os) (started : os.Started) (H : Type) (enc : TypeId × Value → H) :
 ReturnsInHanded {} Tryd.checked os 3 .any (fun w args => (Rows.plansLeastSpec.pre enc Tryd.checked.prog Tryd.f3 [] false w args ∧ laidMetH Tryd.prog Rows.plansLeastRow.laid w) ∧ sizedMet enc Tryd.checked.prog Tryd.f3 (OpenSpec.ofChange Rows.plansLeastSpec) false w args)
  (Rows.plansLeastSpec.post enc Tryd.checked.prog Tryd.f3 false true false false) :=
 returnsInHanded_of_change_and (C := Tryd.checked) (X := fun w _ => laidMetH Tryd.prog Rows.plansLeastRow.laid w) (fun _ _ _ hh h => h.of_heap hh) own started noInit3 Tryd.func3
  (wit3 os enc started)
  fun W base args ds gs before hval hW _ _ _ _ => post_law (P := Tryd.checked.prog) Tryd.underlying22 Tryd.underlying3 cells3 Tryd.underlying4 Tryd.params3 res3 rfl (fun _ _ => rfl) hlaw hval hW
theorem named3 : Tryd.pinned.checked.prog.funcNamed Rows.plansLeastRow.func = some 3 := by kernel_rfl
theorem inst3 : Tryd.f3.isInstance Tryd.pinned.checked.prog Rows.plansLeastRow.origin Rows.plansLeastRow.targs := of_decide_eq_true (by kernel_rfl)
theorem wrap3 : Tryd.f3.isWrapper Tryd.pinned.checked.prog Rows.plansLeastRow.wrapper Rows.plansLeastRow.mainSum := by
 unfold Func.isWrapper; first | (rw [if_pos (by decide +kernel)]; kernel_rfl) | (rw [if_neg (by decide +kernel)]; exact ⟨rfl, rfl⟩)
end Go.Proofs.YteehenjdddlnnaaDoor
