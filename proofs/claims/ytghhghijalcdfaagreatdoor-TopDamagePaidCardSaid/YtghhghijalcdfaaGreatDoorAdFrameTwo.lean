/- TopDamagePaid is proved: for every input the law returns true, and its argument reads afterwards as it read before. Conditions: those of the given row alone. -/
import Derived.Test.YtghhghijalcdfaaGreatDoorAdFrameFac
set_option linter.unusedVariables false
set_option linter.unusedSimpArgs false
set_option maxRecDepth 100000
namespace Go.Proofs.YtghhghijalcdfaaGreatDoor
open Go Go.Eng Go.ChangeShapes Go.WideShapes Go.ChangeAt Go.RowKit
theorem own : ownKnob Tryz.prog.godebug = none := by kernel_rfl
theorem cells3 : Tryz.prog.cellsOf 3 = 1 := by kernel_rfl
theorem noInit3 : Tryz.prog.inits.idxOf? 3 = none := by kernel_rfl
theorem res3 : Tryz.f3.resultTypes = #[4] := by kernel_rfl
theorem wit3 (os : Os) {H : Type} (enc : TypeId × Value → H) (started : os.Started) : ∃ (w : World) (tape : Tape) (i : Input), w.os = os ∧ (w.forCall tape i).Shaped Tryz.checked.prog ∧ i.vars = [] ∧ Input.okWide Tryz.checked.prog (w.forCall tape i) .any w.heap.size 3 i ∧
 ((Rows.topDamagePaidSpec.pre enc Tryz.checked.prog Tryz.f3 [] false (w.forCall tape i).memory i.args ∧ laidMetH Tryz.prog Rows.topDamagePaidRow.laid (w.forCall tape i).memory) ∧ sizedMet enc Tryz.checked.prog Tryz.f3 (OpenSpec.ofChange Rows.topDamagePaidSpec) false (w.forCall tape i).memory i.args) ∧ Assume.holds {} Tryz.checked.prog (lone (Frame.enter Tryz.checked.prog 3 i.args .normal) [] (w.forCall tape i)) :=
 ChangeSpec.witness_shaped (enc := enc) (C := Tryz.checked) (os := os) (X := fun w _ => laidMetH Tryz.prog Rows.topDamagePaidRow.laid w) false (World.laidAll Tryz.prog os Rows.topDamagePaidRow.laid) #[.slice none 0 0] 8 (World.laidAll_os _ _ _)
  (World.shaped_of_ZipB (by kernel_rfl) (by kernel_rfl)) (by kernel_rfl) (by kernel_rfl) (by kernel_rfl)
  (by rw [MakeChecks.laidMetH_plain _ _ _ (by kernel_rfl)]; exact laidMet_laidAll _ (by kernel_rfl) (by kernel_rfl))
abbrev Law (f : FuncId) : Prop := ∀ (n : Nat) (L : Nat → Int), n ≤ maxLen → (∀ i, -2^63 ≤ L i ∧ L i < 2^63) → FSpec Tryz.prog f [.d (.ro 1 n fun i => [.int .i64 (L i)])] kx (fun x r => x = .d (.bool true) ∧ r = kx)
theorem plain3 (w : World) : laidMetH Tryz.prog Rows.topDamagePaidRow.laid w = laidMet Tryz.prog Rows.topDamagePaidRow.laid w := MakeChecks.laidMetH_plain _ _ _ (by kernel_rfl)
theorem fac3 {W : World} (hl : laidMetH Tryz.prog Rows.topDamagePaidRow.laid W) (hs : W.ShapedOpen Tryz.prog) : ∀ G, (Hp.le (fun b => W.heap[b]?) G) → facts FX G :=
 facts_at (i1 := 2) (i2 := 5) (i3 := 4) hl plain3 hs rfl rfl rfl (fun w ht n h0 h1 => Any.strconv_Itoa Tryz.laysM171 n h0 h1 w ht) (g1 := 1) (t1 := 291) (u1 := 229) (n20 := 20) (t2 := 281) (t3 := 281) (by kernel_rfl) (by kernel_rfl) Tryz.underlying291 Tryz.underlying229 (by kernel_rfl) (by kernel_rfl) (by kernel_rfl) (by kernel_rfl) Tryz.underlying281 (by kernel_rfl) (by kernel_rfl) Tryz.underlying281
theorem lift3 (hlaw : Law 3) (os : Os) (started : os.Started) (H : Type) (enc : TypeId × Value → H) :
 ReturnsInHanded {} Tryz.checked os 3 .any (fun w args => (Rows.topDamagePaidSpec.pre enc Tryz.checked.prog Tryz.f3 [] false w args ∧ laidMetH Tryz.prog Rows.topDamagePaidRow.laid w) ∧ sizedMet enc Tryz.checked.prog Tryz.f3 (OpenSpec.ofChange Rows.topDamagePaidSpec) false w args)
  (Rows.topDamagePaidSpec.post enc Tryz.checked.prog Tryz.f3 false true false false) :=
 change_shaped (C := Tryz.checked) (X := fun w _ => laidMetH Tryz.prog Rows.topDamagePaidRow.laid w) (fun _ _ _ hh h => h.of_heap hh) own started noInit3 Tryz.func3
  (wit3 os enc started)
  fun W base args ds gs before hval hW hl hs => post_law (P := Tryz.checked.prog) Tryz.underlying22 Tryz.underlying3 cells3 Tryz.underlying4 Tryz.params3 res3 rfl (fun _ _ => rfl) hlaw (fac3 hl hs) hval hW
theorem named3 : Tryz.pinned.checked.prog.funcNamed Rows.topDamagePaidRow.func = some 3 := by kernel_rfl
theorem inst3 : Tryz.f3.isInstance Tryz.pinned.checked.prog Rows.topDamagePaidRow.origin Rows.topDamagePaidRow.targs := of_decide_eq_true (by kernel_rfl)
theorem wrap3 : Tryz.f3.isWrapper Tryz.pinned.checked.prog Rows.topDamagePaidRow.wrapper Rows.topDamagePaidRow.mainSum := by
 unfold Func.isWrapper; first | (rw [if_pos (by decide +kernel)]; kernel_rfl) | (rw [if_neg (by decide +kernel)]; exact ⟨rfl, rfl⟩)
end Go.Proofs.YtghhghijalcdfaaGreatDoor
