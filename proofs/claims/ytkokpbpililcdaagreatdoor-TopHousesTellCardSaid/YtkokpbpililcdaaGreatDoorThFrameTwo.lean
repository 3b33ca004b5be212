/- TopHousesTell is proved: for every input the law returns true, and its argument reads afterwards as it read before. Conditions: those of the given row alone. -/
import Derived.Test.YtkokpbpililcdaaGreatDoorThFrameFac
set_option linter.unusedVariables false
set_option linter.unusedSimpArgs false
set_option maxRecDepth 100000
namespace Go.Proofs.YtkokpbpililcdaaGreatDoor
open Go Go.Eng Go.ChangeShapes Go.WideShapes Go.ChangeAt Go.RowKit
theorem own : ownKnob Tryz.prog.godebug = none := by kernel_rfl
theorem Lz : Tryz.prog.cellsOf 3 = 1 := by kernel_rfl
theorem HO : Tryz.prog.inits.idxOf? 4 = none := by kernel_rfl
theorem Pz : Tryz.f4.resultTypes = #[4] := by kernel_rfl
theorem Pp (os : Os) {H : Type} (enc : TypeId × Value → H) (started : os.Started) : ∃ (w : World) (tape : Tape) (i : Input), w.os = os ∧ (w.forCall tape i).Shaped Tryz.checked.prog ∧ i.vars = [] ∧ Input.okWide Tryz.checked.prog (w.forCall tape i) .any w.heap.size 4 i ∧
 ((Rows.topHousesTellSpec.pre enc Tryz.checked.prog Tryz.f4 [] false (w.forCall tape i).memory i.args ∧ laidMetH Tryz.prog Rows.topHousesTellRow.laid (w.forCall tape i).memory) ∧ sizedMet enc Tryz.checked.prog Tryz.f4 (OpenSpec.ofChange Rows.topHousesTellSpec) false (w.forCall tape i).memory i.args) ∧ Assume.holds {} Tryz.checked.prog (lone (Frame.enter Tryz.checked.prog 4 i.args .normal) [] (w.forCall tape i)) :=
 ChangeSpec.witness_shaped (enc := enc) (C := Tryz.checked) (os := os) (X := fun w _ => laidMetH Tryz.prog Rows.topHousesTellRow.laid w) false (World.laidAll Tryz.prog os Rows.topHousesTellRow.laid) #[.slice none 0 0] 8 (World.laidAll_os _ _ _)
  (World.shaped_of_ZipB (by kernel_rfl) (by kernel_rfl)) (by kernel_rfl) (by kernel_rfl) (by kernel_rfl)
  (by rw [MakeChecks.laidMetH_plain _ _ _ (by kernel_rfl)]; exact laidMet_laidAll _ (by kernel_rfl) (by kernel_rfl))
abbrev Pw (f : FuncId) : Prop := ∀ (n : Nat) (L : Nat → Int), n ≤ maxLen → (∀ i, -2^63 ≤ L i ∧ L i < 2^63) → ai Tryz.prog f [.d (.ro 1 n fun i => [.int .i64 (L i)])] kx (fun x r => x = .d (.bool true) ∧ r = kx)
theorem KW (w : World) : laidMetH Tryz.prog Rows.topHousesTellRow.laid w = laidMet Tryz.prog Rows.topHousesTellRow.laid w := MakeChecks.laidMetH_plain _ _ _ (by kernel_rfl)
theorem QH {W : World} (hl : laidMetH Tryz.prog Rows.topHousesTellRow.laid W) (hs : W.ShapedOpen Tryz.prog) : ∀ G, (Hp.le (fun b => W.heap[b]?) G) → facts FX G :=
 Gy (i1 := 2) (i2 := 5) (i3 := 4) hl KW hs rfl rfl rfl (fun w ht n h0 h1 => Any.strconv_Itoa uQ n h0 h1 w ht) (g1 := 1) (t1 := 377) (u1 := 309) (n20 := 20) (t2 := 146) (t3 := 146) (by kernel_rfl) (by kernel_rfl) Tryz.underlying377 Tryz.underlying309 (by kernel_rfl) (by kernel_rfl) (by kernel_rfl) (by kernel_rfl) Tryz.underlying146 (by kernel_rfl) (by kernel_rfl) Tryz.underlying146
theorem MX (hlaw : Pw 4) (os : Os) (started : os.Started) (H : Type) (enc : TypeId × Value → H) :
 ReturnsInHanded {} Tryz.checked os 4 .any (fun w args => (Rows.topHousesTellSpec.pre enc Tryz.checked.prog Tryz.f4 [] false w args ∧ laidMetH Tryz.prog Rows.topHousesTellRow.laid w) ∧ sizedMet enc Tryz.checked.prog Tryz.f4 (OpenSpec.ofChange Rows.topHousesTellSpec) false w args)
  (Rows.topHousesTellSpec.post enc Tryz.checked.prog Tryz.f4 false true false false) :=
 uO (C := Tryz.checked) (X := fun w _ => laidMetH Tryz.prog Rows.topHousesTellRow.laid w) (fun _ _ _ hh h => h.of_heap hh) own started HO Tryz.func4
  (Pp os enc started)
  fun W base args ds gs before hval hW hl hs => FS (P := Tryz.checked.prog) Tryz.underlying22 Tryz.underlying3 Lz Tryz.underlying4 Tryz.params4 Pz rfl (fun _ _ => rfl) hlaw (QH hl hs) hval hW
theorem G5 : Tryz.pinned.checked.prog.funcNamed Rows.topHousesTellRow.func = some 4 := by kernel_rfl
theorem Nl : Tryz.f4.isInstance Tryz.pinned.checked.prog Rows.topHousesTellRow.origin Rows.topHousesTellRow.targs := of_decide_eq_true (by kernel_rfl)
theorem Nm : Tryz.f4.isWrapper Tryz.pinned.checked.prog Rows.topHousesTellRow.wrapper Rows.topHousesTellRow.mainSum := by
 unfold Func.isWrapper; first | (rw [if_pos (by decide +kernel)]; kernel_rfl) | (rw [if_neg (by decide +kernel)]; exact ⟨rfl, rfl⟩)
end Go.Proofs.YtkokpbpililcdaaGreatDoor
