/- EntriesFollow is proved: for every input the law returns true, and its argument reads afterwards as it read before. Conditions: those of the given row alone. -/
import Derived.Test.YtafhoijegjmdcaaGreatDoorLzFrameFac
set_option linter.unusedVariables false
set_option linter.unusedSimpArgs false
set_option maxRecDepth 100000
namespace Go.Proofs.YtafhoijegjmdcaaGreatDoor
open Go Go.Eng Go.ChangeShapes Go.WideShapes Go.ChangeAt Go.RowKit
theorem own : ownKnob Tryz.prog.godebug = none := by kernel_rfl
theorem Ij : Tryz.prog.cellsOf 3 = 1 := by kernel_rfl
theorem FC : Tryz.prog.inits.idxOf? 3 = none := by kernel_rfl
theorem Mk : Tryz.f3.resultTypes = #[4] := by kernel_rfl
theorem N9 (os : Os) {H : Type} (enc : TypeId × Value → H) (started : os.Started) : ∃ (w : World) (tape : Tape) (i : Input), w.os = os ∧ (w.forCall tape i).Shaped Tryz.checked.prog ∧ i.vars = [] ∧ Input.okWide Tryz.checked.prog (w.forCall tape i) .any w.heap.size 3 i ∧
 ((Rows.entriesFollowSpec.pre enc Tryz.checked.prog Tryz.f3 [] false (w.forCall tape i).memory i.args ∧ laidMetH Tryz.prog Rows.entriesFollowRow.laid (w.forCall tape i).memory) ∧ sizedMet enc Tryz.checked.prog Tryz.f3 (OpenSpec.ofChange Rows.entriesFollowSpec) false (w.forCall tape i).memory i.args) ∧ Assume.holds {} Tryz.checked.prog (lone (Frame.enter Tryz.checked.prog 3 i.args .normal) [] (w.forCall tape i)) :=
 ChangeSpec.witness_shaped (enc := enc) (C := Tryz.checked) (os := os) (X := fun w _ => laidMetH Tryz.prog Rows.entriesFollowRow.laid w) false (World.laidAll Tryz.prog os Rows.entriesFollowRow.laid) #[.slice none 0 0] 8 (World.laidAll_os _ _ _)
  (World.shaped_of_ZipB (by kernel_rfl) (by kernel_rfl)) (by kernel_rfl) (by kernel_rfl) (by kernel_rfl)
  (by rw [MakeChecks.laidMetH_plain _ _ _ (by kernel_rfl)]; exact laidMet_laidAll _ (by kernel_rfl) (by kernel_rfl))
abbrev Oa (f : FuncId) : Prop := ∀ (n : Nat) (L : Nat → Int), n ≤ maxLen → (∀ i, -2^63 ≤ L i ∧ L i < 2^63) → ae Tryz.prog f [.d (.ro 1 n fun i => [.int .i64 (L i)])] kx (fun x r => x = .d (.bool true) ∧ r = kx)
theorem HM (w : World) : laidMetH Tryz.prog Rows.entriesFollowRow.laid w = laidMet Tryz.prog Rows.entriesFollowRow.laid w := MakeChecks.laidMetH_plain _ _ _ (by kernel_rfl)
theorem MO {W : World} (hl : laidMetH Tryz.prog Rows.entriesFollowRow.laid W) (hs : W.ShapedOpen Tryz.prog) : ∀ G, (Hp.le (fun b => W.heap[b]?) G) → facts FX G :=
 B8 (i1 := 2) (i2 := 5) (i3 := 4) hl HM hs rfl rfl rfl (fun w ht n h0 h1 => Any.strconv_Itoa sK n h0 h1 w ht) (g1 := 1) (t1 := 329) (u1 := 265) (n20 := 20) (t2 := 270) (t3 := 270) (by kernel_rfl) (by kernel_rfl) Tryz.underlying329 Tryz.underlying265 (by kernel_rfl) (by kernel_rfl) (by kernel_rfl) (by kernel_rfl) Tryz.underlying270 (by kernel_rfl) (by kernel_rfl) Tryz.underlying270
theorem Kd (hlaw : Oa 3) (os : Os) (started : os.Started) (H : Type) (enc : TypeId × Value → H) :
 ReturnsInHanded {} Tryz.checked os 3 .any (fun w args => (Rows.entriesFollowSpec.pre enc Tryz.checked.prog Tryz.f3 [] false w args ∧ laidMetH Tryz.prog Rows.entriesFollowRow.laid w) ∧ sizedMet enc Tryz.checked.prog Tryz.f3 (OpenSpec.ofChange Rows.entriesFollowSpec) false w args)
  (Rows.entriesFollowSpec.post enc Tryz.checked.prog Tryz.f3 false true false false) :=
 sJ (C := Tryz.checked) (X := fun w _ => laidMetH Tryz.prog Rows.entriesFollowRow.laid w) (fun _ _ _ hh h => h.of_heap hh) own started FC Tryz.func3
  (N9 os enc started)
  fun W base args ds gs before hval hW hl hs => Dc (P := Tryz.checked.prog) Tryz.underlying22 Tryz.underlying3 Ij Tryz.underlying4 Tryz.params3 Mk rfl (fun _ _ => rfl) hlaw (MO hl hs) hval hW
theorem Cq : Tryz.pinned.checked.prog.funcNamed Rows.entriesFollowRow.func = some 3 := by kernel_rfl
theorem K2 : Tryz.f3.isInstance Tryz.pinned.checked.prog Rows.entriesFollowRow.origin Rows.entriesFollowRow.targs := of_decide_eq_true (by kernel_rfl)
theorem J6 : Tryz.f3.isWrapper Tryz.pinned.checked.prog Rows.entriesFollowRow.wrapper Rows.entriesFollowRow.mainSum := by
 unfold Func.isWrapper; first | (rw [if_pos (by decide +kernel)]; kernel_rfl) | (rw [if_neg (by decide +kernel)]; exact ⟨rfl, rfl⟩)
end Go.Proofs.YtafhoijegjmdcaaGreatDoor
