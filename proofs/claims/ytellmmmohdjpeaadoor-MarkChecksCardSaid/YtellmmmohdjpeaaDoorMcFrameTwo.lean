/- MarkChecks is proved: for every input the law returns true, and its argument reads afterwards as it read before. Conditions: those of the given row alone. -/
import Derived.Test.YtellmmmohdjpeaaDoorMcFrameOne
set_option linter.unusedVariables false
set_option linter.unusedSimpArgs false
set_option maxRecDepth 100000
namespace Go.Proofs.YtellmmmohdjpeaaDoor
open Go Go.Eng Go.ChangeShapes Go.WideShapes Go.ChangeAt Go.RowKit
theorem own : ownKnob Tryd.prog.godebug = none := by kernel_rfl
theorem cells3 : Tryd.prog.cellsOf 3 = 1 := by kernel_rfl
theorem noInit12 : Tryd.prog.inits.idxOf? 12 = none := by kernel_rfl
theorem res12 : Tryd.f12.resultTypes = #[4] := by kernel_rfl
theorem wit12 (os : Os) {H : Type} (enc : TypeId × Value → H) (started : os.Started) : ∃ (w : World) (tape : Tape) (i : Input), w.os = os ∧ (w.forCall tape i).Shaped Tryd.checked.prog ∧ i.vars = [] ∧ Input.okWide Tryd.checked.prog (w.forCall tape i) .any w.heap.size 12 i ∧
      ((Rows.markChecksSpec.pre enc Tryd.checked.prog Tryd.f12 [] false (w.forCall tape i).memory i.args ∧ laidMetH Tryd.prog Rows.markChecksRow.laid (w.forCall tape i).memory) ∧ sizedMet enc Tryd.checked.prog Tryd.f12 (OpenSpec.ofChange Rows.markChecksSpec) false (w.forCall tape i).memory i.args) ∧ Assume.holds {} Tryd.checked.prog (lone (Frame.enter Tryd.checked.prog 12 i.args .normal) [] (w.forCall tape i)) :=
  ChangeSpec.witness_shaped (enc := enc) (C := Tryd.checked) (os := os) (X := fun w _ => laidMetH Tryd.prog Rows.markChecksRow.laid w) false (World.laidAll Tryd.prog os Rows.markChecksRow.laid) #[.slice none 0 0] 8 (World.laidAll_os _ _ _)
        (World.shaped_of_ZipB (by kernel_rfl) (by kernel_rfl)) (by kernel_rfl) (by kernel_rfl) (by kernel_rfl)
        (by rw [MakeChecks.laidMetH_plain _ _ _ (by kernel_rfl)]; exact laidMet_laidAll _ (by kernel_rfl) (by kernel_rfl))

/-- The law's contract. -/
abbrev Law (f : FuncId) : Prop := ∀ (n : Nat) (L : Nat → Int), n ≤ maxLen → (∀ i, -2^63 ≤ L i ∧ L i < 2^63) → FSpec Tryd.prog f [.d (.ro 1 n fun i => [.int .i64 (L i)])] [] (fun x r => x = .d (.bool true) ∧ r = [])
theorem lift12 (hlaw : Law 12) (os : Os) (started : os.Started) (H : Type) (enc : TypeId × Value → H) :
    ReturnsInHanded {} Tryd.checked os 12 .any (fun w args => (Rows.markChecksSpec.pre enc Tryd.checked.prog Tryd.f12 [] false w args ∧ laidMetH Tryd.prog Rows.markChecksRow.laid w) ∧ sizedMet enc Tryd.checked.prog Tryd.f12 (OpenSpec.ofChange Rows.markChecksSpec) false w args)
      (Rows.markChecksSpec.post enc Tryd.checked.prog Tryd.f12 false true false false) :=
    returnsInHanded_of_change_and (C := Tryd.checked) (X := fun w _ => laidMetH Tryd.prog Rows.markChecksRow.laid w) (fun _ _ _ hh h => h.of_heap hh) own started noInit12 Tryd.func12
      (wit12 os enc started)
      fun W base args ds gs before hval hW _ _ _ _ => post_law (P := Tryd.checked.prog) Tryd.underlying22 Tryd.underlying3 cells3 Tryd.underlying4 Tryd.params12 res12 rfl (fun _ _ => rfl) hlaw hval hW
theorem closed12 : joinedFacts Tryd.pinned.checked.prog 12 Tryd.f12 Rows.markChecksSpec Rows.markChecksRow = true := by kernel_rfl
theorem named12 : Tryd.pinned.checked.prog.funcNamed Rows.markChecksRow.func = some 12 := by kernel_rfl
theorem inst12 : Tryd.f12.isInstance Tryd.pinned.checked.prog Rows.markChecksRow.origin Rows.markChecksRow.targs := of_decide_eq_true (by kernel_rfl)
theorem wrap12 : Tryd.f12.isWrapper Tryd.pinned.checked.prog Rows.markChecksRow.wrapper Rows.markChecksRow.mainSum := by
  unfold Func.isWrapper; first | (rw [if_pos (by decide +kernel)]; kernel_rfl) | (rw [if_neg (by decide +kernel)]; exact ⟨rfl, rfl⟩)
end Go.Proofs.YtellmmmohdjpeaaDoor
