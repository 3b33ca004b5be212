/- PricesProve is proved: for every input the law returns true, and its argument reads afterwards as it read before. Conditions: those of the given row alone. -/
import Derived.Test.YteehenjdddlnnaaDoorPpFrameFac
set_option linter.unusedVariables false
set_option linter.unusedSimpArgs false
set_option maxRecDepth 100000
namespace Go.Proofs.YteehenjdddlnnaaDoor
open Go Go.Eng Go.ChangeShapes Go.WideShapes Go.ChangeAt Go.RowKit
theorem own : ownKnob Tryd.prog.godebug = none := by kernel_rfl
theorem cells3 : Tryd.prog.cellsOf 3 = 1 := by kernel_rfl
theorem noInit4 : Tryd.prog.inits.idxOf? 4 = none := by kernel_rfl
theorem res4 : Tryd.f4.resultTypes = #[4] := by kernel_rfl
theorem wit4 (os : Os) {H : Type} (enc : TypeId × Value → H) (started : os.Started) : ∃ (w : World) (tape : Tape) (i : Input), w.os = os ∧ (w.forCall tape i).Shaped Tryd.checked.prog ∧ i.vars = [] ∧ Input.okWide Tryd.checked.prog (w.forCall tape i) .any w.heap.size 4 i ∧
 ((Rows.pricesProveSpec.pre enc Tryd.checked.prog Tryd.f4 [] false (w.forCall tape i).memory i.args ∧ laidMetH Tryd.prog Rows.pricesProveRow.laid (w.forCall tape i).memory) ∧ sizedMet enc Tryd.checked.prog Tryd.f4 (OpenSpec.ofChange Rows.pricesProveSpec) false (w.forCall tape i).memory i.args) ∧ Assume.holds {} Tryd.checked.prog (lone (Frame.enter Tryd.checked.prog 4 i.args .normal) [] (w.forCall tape i)) :=
 ChangeSpec.witness_shaped (enc := enc) (C := Tryd.checked) (os := os) (X := fun w _ => laidMetH Tryd.prog Rows.pricesProveRow.laid w) false (World.laidAll Tryd.prog os Rows.pricesProveRow.laid) #[.slice none 0 0] 8 (World.laidAll_os _ _ _)
  (World.shaped_of_ZipB (by kernel_rfl) (by kernel_rfl)) (by kernel_rfl) (by kernel_rfl) (by kernel_rfl)
  (by rw [MakeChecks.laidMetH_plain _ _ _ (by kernel_rfl)]; exact laidMet_laidAll _ (by kernel_rfl) (by kernel_rfl))
abbrev Law (f : FuncId) : Prop := ∀ (n : Nat) (L : Nat → Int), n ≤ maxLen → (∀ i, -2^63 ≤ L i ∧ L i < 2^63) → FSpec Tryd.prog f [.d (.ro 1 n fun i => [.int .i64 (L i)])] [] (fun x r => x = .d (.bool true) ∧ r = [])
theorem lift4 (hlaw : Law 4) (os : Os) (started : os.Started) (H : Type) (enc : TypeId × Value → H) :
 ReturnsInHanded {} Tryd.checked os 4 .any (fun w args => (Rows.pricesProveSpec.pre enc Tryd.checked.prog Tryd.f4 [] false w args ∧ laidMetH Tryd.prog Rows.pricesProveRow.laid w) ∧ sizedMet enc Tryd.checked.prog Tryd.f4 (OpenSpec.ofChange Rows.pricesProveSpec) false w args)
  (Rows.pricesProveSpec.post enc Tryd.checked.prog Tryd.f4 false true false false) :=
 returnsInHanded_of_change_and (C := Tryd.checked) (X := fun w _ => laidMetH Tryd.prog Rows.pricesProveRow.laid w) (fun _ _ _ hh h => h.of_heap hh) own started noInit4 Tryd.func4
  (wit4 os enc started)
  fun W base args ds gs before hval hW _ _ _ _ => post_law (P := Tryd.checked.prog) Tryd.underlying22 Tryd.underlying3 cells3 Tryd.underlying4 Tryd.params4 res4 rfl (fun _ _ => rfl) hlaw hval hW
theorem named4 : Tryd.pinned.checked.prog.funcNamed Rows.pricesProveRow.func = some 4 := by kernel_rfl
theorem inst4 : Tryd.f4.isInstance Tryd.pinned.checked.prog Rows.pricesProveRow.origin Rows.pricesProveRow.targs := of_decide_eq_true (by kernel_rfl)
theorem wrap4 : Tryd.f4.isWrapper Tryd.pinned.checked.prog Rows.pricesProveRow.wrapper Rows.pricesProveRow.mainSum := by
 unfold Func.isWrapper; first | (rw [if_pos (by decide +kernel)]; kernel_rfl) | (rw [if_neg (by decide +kernel)]; exact ⟨rfl, rfl⟩)
end Go.Proofs.YteehenjdddlnnaaDoor
