/- RoundsCost is proved: for every input the law returns true, and its argument reads afterwards as it read before. Conditions: those of the given row alone. -/
import Derived.Test.YtnkdlkgannnfhaaGreatDoorRcConOne
import Derived.Test.YtnkdlkgannnfhaaGreatDoorRcEngTwo
set_option linter.unusedVariables false
set_option linter.unusedSimpArgs false
set_option maxRecDepth 20000
namespace Go.Proofs.YtnkdlkgannnfhaaGreatDoor
open Go Go.Eng
def cmpIL : List Int → List Int → Int
  | [], [] => 0
  | [], _ :: _ => -1
  | _ :: _, [] => 1
  | x :: xs, y :: ys => if cmpI x y ≠ 0 then cmpI x y else cmpIL xs ys
-- slices.Compare of numbers
theorem s191 (l m : List Int) (hl : l.length ≤ 2^40) (hm : m.length ≤ 2^40) : FSpec Tryz.prog 245 [.d (ints l), .d (ints m)] [] (fun x r => x = .d (.int .i64 (cmpIL l m)) ∧ r = []) := by
  refine spec_of hT (C := []) Tryz.func245 rfl Tryz.call245 rfl rfl rfl ?_
  conv => whnf
  refine LoopX.rule hT (C := []) (ι := Nat) (fun i => i ≤ l.length ∧ i ≤ m.length ∧ cmpIL l m = cmpIL (l.drop i) (m.drop i)) (fun i => mkSt [(0, .d (ints l)), (1, .d (ints m)), (9, .d (ints l)), (10, .d (.int .i64 l.length)), (11, .d (.int .i64 i))] []) (fun i => l.length - i) 0 ⟨by omega, by omega, by simp⟩ (by refine Entails.mk' [] rfl rfl ?_ ?_ <;> repeat' (first | exact True.intro | exact SV.le_refl _ | exact Res.le_refl _ | exact SV.le_int (by omega) | exact SV.le_any _ | refine And.intro ?_ ?_)) ?_
  rintro i ⟨p1, p2, p3⟩
  have hd : i < l.length → l.drop i = l.getD i 0 :: l.drop (i + 1) := fun hi => by rw [List.drop_eq_getElem_cons hi, List.getD_eq_getElem?_getD, List.getElem?_eq_getElem hi]; rfl
  have hd2 : i < m.length → m.drop i = m.getD i 0 :: m.drop (i + 1) := fun hi => by rw [List.drop_eq_getElem_cons hi, List.getD_eq_getElem?_getD, List.getElem?_eq_getElem hi]; rfl
  have e1 : (i : Int).toNat = i := Int.toNat_natCast i
  conv => whnf
  repeat' (first
    | (refine CallX.exact (s183 _ _) rfl rfl ?_; rotate_right; conv => whnf)
    | (refine br_intro (fun hb => ?_) (fun hb => ?_) <;> (try simp only [decide_eq_true_eq, decide_eq_false_iff_not, Bool.not_eq_true', Bool.not_eq_false', Bool.and_eq_true, Bool.or_eq_true, beq_iff_eq, not_and, Int.not_le, Int.not_lt, Int.toNat_natCast, beq_eq_false_iff_ne, ne_eq, eq_self, not_true_eq_false, not_false_eq_true] at hb) <;> (conv => whnf))
    | omega
    | (refine And.intro ?_ ?_; ((try dsimp only); first | omega | (refine ⟨by omega, by omega, Int.le_trans (Int.mul_le_mul_of_nonneg_right (Int.ofNat_le.2 (Nat.le_of_ble_eq_true (rfl : Nat.ble _ 1024 = true))) (by omega)) (by omega), by omega⟩) | (refine Nat.le_trans (Nat.mul_le_mul_left _ (Nat.le_of_ble_eq_true (rfl : Nat.ble _ 1024 = true))) ?_; omega) | (unfold inI64; omega) | (constructor <;> omega) | (simp only [inI64, List.length_cons, List.length_append, List.length_nil, List.length_set] at *; omega) | decide | (unfold inI64; decide)); conv => whnf)
    | omega | decide | assumption)
  · refine .ret _ ?_
    conv => whnf
    refine ⟨[], ⟨?_, rfl⟩, trivial⟩
    conv => lhs; whnf
    congr 2
    rw [p3, hd (by omega), List.drop_eq_nil_iff.2 (by omega : m.length ≤ i)]; rfl
  · refine .ret _ ?_
    conv => whnf
    refine ⟨[], ⟨?_, rfl⟩, trivial⟩
    conv => lhs; whnf
    congr 2
    rw [p3, hd (by omega), hd2 (by omega), cmpIL, if_pos (by simpa using hb)]; simp only [e1]
  · refine ⟨i + 1, ⟨by omega, by omega, ?_⟩, by omega, (by refine Entails.mk' [] rfl rfl ?_ ?_ <;> repeat' (first | exact True.intro | exact SV.le_refl _ | exact Res.le_refl _ | exact SV.le_int (by omega) | exact SV.le_any _ | refine And.intro ?_ ?_))⟩
    rw [p3, hd (by omega), hd2 (by omega), cmpIL, if_neg (by simpa using hb)]
  · refine .ret _ ?_
    conv => whnf
    refine ⟨[], ⟨?_, rfl⟩, trivial⟩
    conv => lhs; whnf
    congr 2
    have hm : i < m.length := by omega
    rw [p3, hd2 hm, List.drop_eq_nil_iff.2 (by omega : l.length ≤ i)]; rfl
  · refine .ret _ ?_
    conv => whnf
    refine ⟨[], ⟨?_, rfl⟩, trivial⟩
    conv => lhs; whnf
    congr 2
    rw [p3, List.drop_eq_nil_iff.2 (by omega : m.length ≤ i), List.drop_eq_nil_iff.2 (by omega : l.length ≤ i)]; rfl
theorem mrkOrder_eq (a b : Mrk) : mrkCmp a b = if a.pan ≠ b.pan then cmpS a.pan b.pan else cmpIL [a.kind, a.x, a.y, a.size] [b.kind, b.x, b.y, b.size] := by
  unfold mrkCmp
  simp only [firstE, cmpIL]
  by_cases h : a.pan = b.pan
  · have : cmpS a.pan b.pan = 0 := by unfold cmpS; rw [h, less_irr]; rfl
    simp [this, h]
    grind
  · have : cmpS a.pan b.pan ≠ 0 := by
      unfold cmpS
      intro q
      split at q
      · cases q
      · rename_i q1
        rw [less_tri _ _ (by simpa using q1) h] at q
        cases q
    simp [this, h]
-- MarkOrder
theorem s157 (a b : Mrk) : FSpec Tryz.prog 198 [.agg ((mkF a).map .d), .agg ((mkF b).map .d)] [] (fun x r => x = .d (.int .i64 (mrkCmp a b)) ∧ r = []) := by
  refine spec_of hT (C := []) Tryz.func198 rfl Tryz.call198 rfl rfl rfl ?_
  conv => whnf
  repeat' (first
    | (refine CallX.exact (s190 _ _) rfl rfl ?_; rotate_right; conv => whnf)
    | (refine CallX.pure (s191 [_, _, _, _] [_, _, _, _] (by simp) (by simp)) ⟨SV.le_lit (by rfl) (by rfl), SV.le_lit (by rfl) (by rfl), trivial⟩ rfl ?_; conv => whnf)
    | (refine br_intro (fun hb => ?_) (fun hb => ?_) <;> (try simp only [decide_eq_true_eq, decide_eq_false_iff_not, Bool.not_eq_true', Bool.not_eq_false', Bool.and_eq_true, Bool.or_eq_true, beq_iff_eq, not_and, Int.not_le, Int.not_lt, Int.toNat_natCast, beq_eq_false_iff_ne, ne_eq, eq_self, not_true_eq_false, not_false_eq_true] at hb) <;> (conv => whnf))
    | omega
    | (refine And.intro ?_ ?_; ((try dsimp only); first | omega | (refine ⟨by omega, by omega, Int.le_trans (Int.mul_le_mul_of_nonneg_right (Int.ofNat_le.2 (Nat.le_of_ble_eq_true (rfl : Nat.ble _ 1024 = true))) (by omega)) (by omega), by omega⟩) | (refine Nat.le_trans (Nat.mul_le_mul_left _ (Nat.le_of_ble_eq_true (rfl : Nat.ble _ 1024 = true))) ?_; omega) | (unfold inI64; omega) | (constructor <;> omega) | (simp only [inI64, List.length_cons, List.length_append, List.length_nil, List.length_set] at *; omega) | decide | (unfold inI64; decide)); conv => whnf)
    | omega | decide | assumption)
  · refine .ret _ ?_
    conv => whnf
    refine ⟨[], ⟨?_, rfl⟩, trivial⟩
    conv => lhs; whnf
    congr 2
    rw [mrkOrder_eq, if_pos hb]
  · refine .ret _ ?_
    conv => whnf
    refine ⟨[], ⟨?_, rfl⟩, trivial⟩
    conv => lhs; whnf
    congr 2
    rw [mrkOrder_eq, if_neg (by simpa using hb)]
-- MarkForm
theorem s195 (l : List Mrk) (hk : mkOk l) : FSpec Tryz.prog 95 [.d (mrks l)] [] (fun x r => x = .d (.int .i64 (mrksE l)) ∧ r = []) := by
  refine spec_of hT (C := []) Tryz.func95 rfl Tryz.call95 rfl rfl rfl ?_
  conv => whnf
  refine br_intro (fun h0 => ?_) (fun h0 => ?_)
  · simp at h0
    conv => whnf
    refine .ret _ ?_
    conv => whnf
    refine ⟨[], ⟨?_, rfl⟩, trivial⟩
    conv => lhs; whnf
    unfold mrksE; rw [if_pos (by omega)]
  simp at h0
  conv => whnf
  refine LoopX.rule hT (C := []) (ι := Nat) (fun i => i ≤ l.length ∧ ∀ j, j < i → mrkE l j = 0) (fun i => mkSt [(0, .d (mrks l)), (8, .d (mrks l)), (9, .d (.int .i64 l.length)), (10, .d (.int .i64 i))] []) (fun i => l.length - i) 0 ⟨by omega, by omega⟩ (by refine Entails.mk' [] rfl rfl ?_ ?_ <;> repeat' (first | exact True.intro | exact SV.le_refl _ | exact Res.le_refl _ | exact SV.le_int (by omega) | exact SV.le_any _ | refine And.intro ?_ ?_)) ?_
  rintro i ⟨p1, p2⟩
  have hx : (i : Int) < l.length → mkK (l.getD (i : Int).toNat mk0) := fun hi => hk.2 _ (getD_mem (by omega))
  have e1 : (i : Int).toNat = i := Int.toNat_natCast i
  have hbad : ∀ e : Int, i < l.length → e ≠ 0 → mrkE l i = e → mrksE l = e := fun e h h1 h2 => by
    unfold mrksE; rw [if_neg (by omega)]
    exact firstAt_eq h p2 h1 h2
  conv => whnf
  repeat' (first
    | (refine CallX.exact (s21 _ (hx (by omega))) rfl rfl ?_; rotate_right; conv => whnf)
    | (refine CallX.exact (s109 _ _ _) rfl rfl ?_; rotate_right; conv => whnf)
    | (refine CallX.exact (s157 (l.getD ((i : Int) - 1).toNat mk0) (l.getD (i : Int).toNat mk0)) rfl rfl ?_; rotate_right; conv => whnf)
    | (refine br_intro (fun hb => ?_) (fun hb => ?_) <;> (try simp only [decide_eq_true_eq, decide_eq_false_iff_not, Bool.not_eq_true', Bool.not_eq_false', Bool.and_eq_true, Bool.or_eq_true, beq_iff_eq, not_and, Int.not_le, Int.not_lt, Int.toNat_natCast, beq_eq_false_iff_ne, ne_eq, eq_self, not_true_eq_false, not_false_eq_true] at hb) <;> (conv => whnf))
    | (refine RegX.rule (id := 12) hT rfl [] [(0, []), (1, []), (2, []), (3, []), (4, [3]), (5, [3]), (6, []), (7, []), (8, [3, 4, 5, 6, 7]), (9, []), (10, []), (11, []), (12, [])] (by decide +kernel) ?_; conv => whnf)
    | omega
    | (refine And.intro ?_ ?_; ((try dsimp only); first | omega | (refine ⟨by omega, by omega, Int.le_trans (Int.mul_le_mul_of_nonneg_right (Int.ofNat_le.2 (Nat.le_of_ble_eq_true (rfl : Nat.ble _ 1024 = true))) (by omega)) (by omega), by omega⟩) | (refine Nat.le_trans (Nat.mul_le_mul_left _ (Nat.le_of_ble_eq_true (rfl : Nat.ble _ 1024 = true))) ?_; omega) | (unfold inI64; omega) | (constructor <;> omega) | (simp only [inI64, List.length_cons, List.length_append, List.length_nil, List.length_set] at *; omega) | decide | (unfold inI64; decide)); conv => whnf)
    | omega | decide | assumption)
  all_goals first
    | (refine ⟨i + 1, ⟨by omega, first_step p2 (by clear p2 hbad hk hx; simp only [e1, toNat_pred] at *; unfold mrkE ; grind)⟩, by omega, (by refine Entails.mk' [] rfl rfl ?_ ?_ <;> repeat' (first | exact True.intro | exact SV.le_refl _ | exact Res.le_refl _ | exact SV.le_int (by omega) | exact SV.le_any _ | refine And.intro ?_ ?_))⟩)
    | (refine .ret _ ?_
       conv => whnf
       refine ⟨[], ⟨?_, rfl⟩, trivial⟩
       conv => lhs; whnf
       congr 2
       first
         | exact (hbad _ (by omega) (by decide) (by clear p2 hbad hk hx; simp only [e1, toNat_pred] at *; unfold mrkE ; grind)).symm
         | (have : i = l.length := by omega
            subst this
            unfold mrksE; rw [if_neg (by omega), firstAt_zero p2]))
theorem s112d (b : Bool) : FSpec Tryz.prog 114 [.d (.bool b)] [] (fun x r => ((b = true ∧ x = .d (.int .i64 1)) ∨ (b = false ∧ x = .d (.int .i64 0))) ∧ r = []) :=
  (s112 b).mono (by rintro x r ⟨rfl, rfl⟩; cases b <;> simp)
-- marksFault
theorem s160 (p : List Pnl) (l : List Mrk) (hp : p.length ≤ 2^40) (hk : mkOk l) : FSpec Tryz.prog 163 [.d (pnls p), .d (mrks l)] [] (fun x r => x = .d (.int .i64 (onPE p l)) ∧ r = []) := by
  refine spec_of hT (C := []) Tryz.func163 rfl Tryz.call163 rfl rfl rfl ?_
  conv => whnf
  repeat' (first
    | (refine CallX.exact (s195 l hk) rfl rfl ?_; rotate_right; conv => whnf)
    | (refine br_intro (fun hb => ?_) (fun hb => ?_) <;> (try simp only [decide_eq_true_eq, decide_eq_false_iff_not, Bool.not_eq_true', Bool.not_eq_false', Bool.and_eq_true, Bool.or_eq_true, beq_iff_eq, not_and, Int.not_le, Int.not_lt, Int.toNat_natCast, beq_eq_false_iff_ne, ne_eq, eq_self, not_true_eq_false, not_false_eq_true] at hb) <;> (conv => whnf))
    | (refine RegX.rule (id := 10) hT rfl [] [(0, []), (1, []), (2, [0, 1]), (3, [0, 1, 2]), (4, [0, 1]), (5, [0, 1]), (6, [0, 1]), (7, []), (8, []), (9, []), (10, []), (11, [9, 10]), (12, [9, 10, 11]), (13, [9, 10]), (14, [9, 10]), (15, [9, 10]), (16, []), (17, [])] (by decide +kernel) ?_; conv => whnf)
    | omega
    | (refine And.intro ?_ ?_; ((try dsimp only); first | omega | (refine ⟨by omega, by omega, Int.le_trans (Int.mul_le_mul_of_nonneg_right (Int.ofNat_le.2 (Nat.le_of_ble_eq_true (rfl : Nat.ble _ 1024 = true))) (by omega)) (by omega), by omega⟩) | (refine Nat.le_trans (Nat.mul_le_mul_left _ (Nat.le_of_ble_eq_true (rfl : Nat.ble _ 1024 = true))) ?_; omega) | (unfold inI64; omega) | (constructor <;> omega) | (simp only [inI64, List.length_cons, List.length_append, List.length_nil, List.length_set] at *; omega) | decide | (unfold inI64; decide)); conv => whnf)
    | omega | decide | assumption)
  · refine .ret _ ?_
    conv => whnf
    refine ⟨[], ⟨?_, rfl⟩, trivial⟩
    conv => lhs; whnf
    congr 2; unfold onPE; rw [if_pos hb]
  have hm : mrksE l = 0 := by omega
  have hE : onPE p l = if firstAt (onE p l) l.length ≠ 0 then firstAt (onE p l) l.length else firstAt (full2E l) l.length := by
    unfold onPE; rw [if_neg (by omega), full_eq (mrks_inc hm)]
  rw [hE]
  have hl60 : l.length ≤ 60 := by unfold mrksE at hm; split at hm; cases hm; omega
  refine LoopX.rule hT (C := []) (ι := Nat) (fun i => i ≤ l.length ∧ ∀ j, j < i → onE p l j = 0) (fun i => mkSt [(0, .d (pnls p)), (1, .d (mrks l)), (19, .d (mrks l)), (20, .d (.int .i64 l.length)), (21, .d (.int .i64 i))] []) (fun i => l.length - i) 0 ⟨by omega, by omega⟩ (by refine Entails.mk' [] rfl rfl ?_ ?_ <;> repeat' (first | exact True.intro | exact SV.le_refl _ | exact Res.le_refl _ | exact SV.le_int (by omega) | exact SV.le_any _ | refine And.intro ?_ ?_)) ?_
  rintro i ⟨p1, p2⟩
  have e1 : (i : Int).toNat = i := Int.toNat_natCast i
  have hbad : ∀ e : Int, i < l.length → e ≠ 0 → onE p l i = e → firstAt (onE p l) l.length = e := fun e h h1 h2 => firstAt_eq h p2 h1 h2
  have hix := panIx_lt p (l.getD i mk0).pan
  conv => whnf
  repeat' (first
    | (refine CallX.of (s193 234 p hp (l.getD i mk0) (fun q => s196 q _)) [(1000001, 7)] rfl ⟨SV.le_refl _, SV.le_refl _, trivial⟩ ⟨Res.le_refl _, trivial⟩ rfl rfl ?_; rintro x rout ⟨rfl, rfl⟩; refine ⟨rfl, ?_⟩; conv => whnf)
    | (refine br_intro (fun hb => ?_) (fun hb => ?_) <;> (try simp only [decide_eq_true_eq, decide_eq_false_iff_not, Bool.not_eq_true', Bool.not_eq_false', Bool.and_eq_true, Bool.or_eq_true, beq_iff_eq, not_and, Int.not_le, Int.not_lt, Int.toNat_natCast, beq_eq_false_iff_ne, ne_eq, eq_self, not_true_eq_false, not_false_eq_true] at hb) <;> (conv => whnf))
    | (refine RegX.rule (id := 10) hT rfl [] [(0, []), (1, []), (2, [0, 1]), (3, [0, 1, 2]), (4, [0, 1]), (5, [0, 1]), (6, [0, 1]), (7, []), (8, []), (9, []), (10, []), (11, [9, 10]), (12, [9, 10, 11]), (13, [9, 10]), (14, [9, 10]), (15, [9, 10]), (16, []), (17, [])] (by decide +kernel) ?_; conv => whnf)
    | omega
    | (refine And.intro ?_ ?_; ((try dsimp only); first | omega | (refine ⟨by omega, by omega, Int.le_trans (Int.mul_le_mul_of_nonneg_right (Int.ofNat_le.2 (Nat.le_of_ble_eq_true (rfl : Nat.ble _ 1024 = true))) (by omega)) (by omega), by omega⟩) | (refine Nat.le_trans (Nat.mul_le_mul_left _ (Nat.le_of_ble_eq_true (rfl : Nat.ble _ 1024 = true))) ?_; omega) | (unfold inI64; omega) | (constructor <;> omega) | (simp only [inI64, List.length_cons, List.length_append, List.length_nil, List.length_set] at *; omega) | decide | (unfold inI64; decide)); conv => whnf)
    | omega | decide | assumption)
  · refine .ret _ ?_
    conv => whnf
    refine ⟨[], ⟨?_, rfl⟩, trivial⟩
    conv => lhs; whnf
    congr 2
    have := hbad 8 (by omega) (by decide) (by clear p2 hbad; unfold onE; simp only; rw [if_pos (by omega)])
    rw [this, if_pos (by decide)]
  · refine .ret _ ?_
    conv => whnf
    refine ⟨[], ⟨?_, rfl⟩, trivial⟩
    conv => lhs; whnf
    congr 2
    have := hbad 1 (by omega) (by decide) (by clear p2 hbad; unfold onE; simp only; grind)
    rw [this, if_pos (by decide)]
  · refine .ret _ ?_
    conv => whnf
    refine ⟨[], ⟨?_, rfl⟩, trivial⟩
    conv => lhs; whnf
    congr 2
    have := hbad 1 (by omega) (by decide) (by clear p2 hbad; unfold onE; simp only; grind)
    rw [this, if_pos (by decide)]
  · refine ⟨i + 1, ⟨by omega, first_step p2 (by clear p2 hbad; unfold onE; grind)⟩, by omega, (by refine Entails.mk' [] rfl rfl ?_ ?_ <;> repeat' (first | exact True.intro | exact SV.le_refl _ | exact Res.le_refl _ | exact SV.le_int (by omega) | exact SV.le_any _ | refine And.intro ?_ ?_))⟩
  have hi : i = l.length := by omega
  rw [hi] at p2
  rw [firstAt_zero p2, if_neg (by decide)]
  refine LoopX.rule hT (C := []) (ι := Nat) (fun i => i ≤ l.length ∧ ∀ j, j < i → full2E l j = 0) (fun i => mkSt [(1, .d (mrks l)), (49, .d (mrks l)), (50, .d (.int .i64 l.length)), (51, .d (.int .i64 i))] []) (fun i => l.length - i) 0 ⟨by omega, by omega⟩ (by refine Entails.mk' [] rfl rfl ?_ ?_ <;> repeat' (first | exact True.intro | exact SV.le_refl _ | exact Res.le_refl _ | exact SV.le_int (by omega) | exact SV.le_any _ | refine And.intro ?_ ?_)) ?_
  rintro i ⟨p1, p2⟩
  have e1 : (i : Int).toNat = i := Int.toNat_natCast i
  have hbad : i < l.length → full2E l i = 12 → firstAt (full2E l) l.length = 12 := fun h h1 => firstAt_eq h p2 (by decide) h1
  conv => whnf
  repeat' (first
    | (refine br_intro (fun hb => ?_) (fun hb => ?_) <;> (try simp only [decide_eq_true_eq, decide_eq_false_iff_not, Bool.not_eq_true', Bool.not_eq_false', Bool.and_eq_true, Bool.or_eq_true, beq_iff_eq, not_and, Int.not_le, Int.not_lt, Int.toNat_natCast, beq_eq_false_iff_ne, ne_eq, eq_self, not_true_eq_false, not_false_eq_true] at hb) <;> (conv => whnf))
    | (refine RegX.rule (id := 10) hT rfl [] [(0, []), (1, []), (2, [0, 1]), (3, [0, 1, 2]), (4, [0, 1]), (5, [0, 1]), (6, [0, 1]), (7, []), (8, []), (9, []), (10, []), (11, [9, 10]), (12, [9, 10, 11]), (13, [9, 10]), (14, [9, 10]), (15, [9, 10]), (16, []), (17, [])] (by decide +kernel) ?_; conv => whnf)
    | omega
    | (refine And.intro ?_ ?_; ((try dsimp only); first | omega | (refine ⟨by omega, by omega, Int.le_trans (Int.mul_le_mul_of_nonneg_right (Int.ofNat_le.2 (Nat.le_of_ble_eq_true (rfl : Nat.ble _ 1024 = true))) (by omega)) (by omega), by omega⟩) | (refine Nat.le_trans (Nat.mul_le_mul_left _ (Nat.le_of_ble_eq_true (rfl : Nat.ble _ 1024 = true))) ?_; omega) | (unfold inI64; omega) | (constructor <;> omega) | (simp only [inI64, List.length_cons, List.length_append, List.length_nil, List.length_set] at *; omega) | decide | (unfold inI64; decide)); conv => whnf)
    | omega | decide | assumption)
  · refine LoopX.rule hT (C := []) (ι := Nat) (fun m => m ≤ l.length) (fun m => mkSt [(1, .d (mrks l)), (10, .ptr 10 0), (11, .d (.int .i64 (cntM l (l.getD i mk0) m))), (49, .d (mrks l)), (50, .d (.int .i64 l.length)), (51, .d (.int .i64 i)), (55, .d (mrks l)), (56, .d (.int .i64 l.length)), (57, .d (.int .i64 m))] [(10, mcell (l.getD i mk0))]) (fun m => l.length - m) 0 (by omega) ?_ ?_
    · exact Entails.mk' [(10, 10)] rfl rfl ⟨SV.le_refl _, SV.le_refl _, SV.le_refl _, SV.le_refl _, SV.le_refl _, SV.le_refl _, SV.le_refl _, SV.le_refl _, SV.le_refl _, trivial⟩ ⟨by rw [e1]; exact Res.le_refl _, trivial⟩
    rintro m m1
    have e2 : (m : Int).toNat = m := Int.toNat_natCast m
    have hc : cntM l (l.getD i mk0) m ≤ m := by
      clear hbad p2
      induction m with
      | zero => simp [cntM]
      | succ m ih => rw [cntM]; have := ih (by omega) (Int.toNat_natCast m); split <;> omega
    conv => whnf
    repeat' (first
      | (refine CallX.of (s112d _) [] rfl ⟨SV.le_refl _, trivial⟩ trivial rfl rfl ?_; rintro x rout ⟨hfl, rfl⟩; rcases hfl with (⟨hfl, rfl⟩ | ⟨hfl, rfl⟩) <;> refine ⟨rfl, ?_⟩ <;> (try simp only [decide_eq_true_eq, decide_eq_false_iff_not] at hfl) <;> (conv => whnf); conv => whnf)
      | (refine br_intro (fun hb => ?_) (fun hb => ?_) <;> (try simp only [decide_eq_true_eq, decide_eq_false_iff_not, Bool.not_eq_true', Bool.not_eq_false', Bool.and_eq_true, Bool.or_eq_true, beq_iff_eq, not_and, Int.not_le, Int.not_lt, Int.toNat_natCast, beq_eq_false_iff_ne, ne_eq, eq_self, not_true_eq_false, not_false_eq_true] at hb) <;> (conv => whnf))
      | (refine RegX.rule (id := 10) hT rfl [] [(0, []), (1, []), (2, [0, 1]), (3, [0, 1, 2]), (4, [0, 1]), (5, [0, 1]), (6, [0, 1]), (7, []), (8, []), (9, []), (10, []), (11, [9, 10]), (12, [9, 10, 11]), (13, [9, 10]), (14, [9, 10]), (15, [9, 10]), (16, []), (17, [])] (by decide +kernel) ?_; conv => whnf)
      | omega
      | (refine And.intro ?_ ?_; ((try dsimp only); first | omega | (refine ⟨by omega, by omega, Int.le_trans (Int.mul_le_mul_of_nonneg_right (Int.ofNat_le.2 (Nat.le_of_ble_eq_true (rfl : Nat.ble _ 1024 = true))) (by omega)) (by omega), by omega⟩) | (refine Nat.le_trans (Nat.mul_le_mul_left _ (Nat.le_of_ble_eq_true (rfl : Nat.ble _ 1024 = true))) ?_; omega) | (unfold inI64; omega) | (constructor <;> omega) | (simp only [inI64, List.length_cons, List.length_append, List.length_nil, List.length_set] at *; omega) | decide | (unfold inI64; decide)); conv => whnf)
      | omega | decide | assumption)
    all_goals try (exact absurd hfl (by decide))
    all_goals first
      | (have hs : cntM l (l.getD i mk0) (m + 1) = cntM l (l.getD i mk0) m + 1 := by
           rw [cntM, if_pos (by unfold sameM; clear hbad p2 hc; simp only [e2] at *; grind)]
         exact ⟨m + 1, by omega, by omega, Entails.mk' [(10, 10)] rfl rfl ⟨SV.le_refl _, SV.le_refl _, SV.le_int (by rw [hs]; omega), SV.le_refl _, SV.le_refl _, SV.le_refl _, SV.le_refl _, SV.le_refl _, SV.le_refl _, trivial⟩ ⟨Res.le_refl _, trivial⟩⟩)
      | (have hs : cntM l (l.getD i mk0) (m + 1) = cntM l (l.getD i mk0) m := by
           rw [cntM, if_neg (by unfold sameM; clear hbad p2 hc; simp only [e2] at *; grind)]; rfl
         exact ⟨m + 1, by omega, by omega, Entails.mk' [(10, 10)] rfl rfl ⟨SV.le_refl _, SV.le_refl _, SV.le_int (by rw [hs]; omega), SV.le_refl _, SV.le_refl _, SV.le_refl _, SV.le_refl _, SV.le_refl _, SV.le_refl _, trivial⟩ ⟨Res.le_refl _, trivial⟩⟩)
      | (refine .ret _ ?_
         conv => whnf
         refine ⟨[], ⟨?_, rfl⟩, trivial⟩
         conv => lhs; whnf
         congr 2
         have : m = l.length := by omega
         subst this
         rw [hbad (by omega) (by unfold full2E; rw [if_pos (by omega)])])
      | (have : m = l.length := by omega
         subst this
         exact ⟨i + 1, ⟨by omega, first_step p2 (by unfold full2E; rw [if_neg (by omega)])⟩, by omega, (by refine Entails.mk' [] rfl rfl ?_ ?_ <;> repeat' (first | exact True.intro | exact SV.le_refl _ | exact Res.le_refl _ | exact SV.le_int (by omega) | exact SV.le_any _ | refine And.intro ?_ ?_))⟩)
  · refine .ret _ ?_
    conv => whnf
    refine ⟨[], ⟨?_, rfl⟩, trivial⟩
    conv => lhs; whnf
    congr 2
    have : i = l.length := by omega
    subst this
    rw [firstAt_zero p2]
-- mark.CheckMarks
def mrksPE (p : List Pnl) (l : List Mrk) : Int := firstE [pansE p, onPE p l]
-- MarksFault
theorem s101 (p : List Pnl) (l : List Mrk) (hp : pnOk p) (hk : mkOk l) : FSpec Tryz.prog 87 [.d (pnls p), .d (mrks l)] [] (fun x r => x = .d (.int .i64 (mrksPE p l)) ∧ r = []) := by
  refine spec_of hT (C := []) Tryz.func87 rfl Tryz.call87 rfl rfl rfl ?_
  conv => whnf
  repeat' (first
    | (refine CallX.exact (s99 p hp) rfl rfl ?_; rotate_right; conv => whnf)
    | (refine CallX.exact (s160 p l hp.1 hk) rfl rfl ?_; rotate_right; conv => whnf)
    | (refine br_intro (fun hb => ?_) (fun hb => ?_) <;> (try simp only [decide_eq_true_eq, decide_eq_false_iff_not, Bool.not_eq_true', Bool.not_eq_false', Bool.and_eq_true, Bool.or_eq_true, beq_iff_eq, not_and, Int.not_le, Int.not_lt, Int.toNat_natCast, beq_eq_false_iff_ne, ne_eq, eq_self, not_true_eq_false, not_false_eq_true] at hb) <;> (conv => whnf))
    | omega
    | (refine And.intro ?_ ?_; ((try dsimp only); first | omega | (refine ⟨by omega, by omega, Int.le_trans (Int.mul_le_mul_of_nonneg_right (Int.ofNat_le.2 (Nat.le_of_ble_eq_true (rfl : Nat.ble _ 1024 = true))) (by omega)) (by omega), by omega⟩) | (refine Nat.le_trans (Nat.mul_le_mul_left _ (Nat.le_of_ble_eq_true (rfl : Nat.ble _ 1024 = true))) ?_; omega) | (unfold inI64; omega) | (constructor <;> omega) | (simp only [inI64, List.length_cons, List.length_append, List.length_nil, List.length_set] at *; omega) | decide | (unfold inI64; decide)); conv => whnf)
    | omega | decide | assumption)
  · refine .ret _ ?_
    conv => whnf
    refine ⟨[], ⟨?_, rfl⟩, trivial⟩
    conv => lhs; whnf
    congr 2; unfold mrksPE; simp only [firstE]; grind
  · refine .ret _ ?_
    conv => whnf
    refine ⟨[], ⟨?_, rfl⟩, trivial⟩
    conv => lhs; whnf
    congr 2; unfold mrksPE; simp only [firstE]; grind
end Go.Proofs.YtnkdlkgannnfhaaGreatDoor
set_option maxRecDepth 20000
namespace Go.Proofs.YtnkdlkgannnfhaaGreatDoor
open Go Go.Eng
def mvE (l : List Mov) (i : Nat) : Int :=
  let x := l.getD i mv0
  if isKeyB x.a = false ∨ isKeyB x.b = false then 5 else if x.a = x.b then 14 else if 0 < i ∧ 0 ≤ endsC (l.getD (i - 1) mv0).a (l.getD (i - 1) mv0).b x.a x.b then 7 else if ¬ (1 ≤ x.many ∧ x.many ≤ 20) then 1 else 0
def mvsE (l : List Mov) : Int := if 2500 < l.length then 2 else firstAt (mvE l) l.length
def mvK (x : Mov) : Prop := x.a.length ≤ 2^40 ∧ x.b.length ≤ 2^40
def mvOk (l : List Mov) : Prop := l.length ≤ 2^40 ∧ ∀ x ∈ l, mvK x
-- shift.formed
theorem z116 (l : List Mov) (hk : mvOk l) : FSpec Tryz.prog 116 [.d (movs l)] [] (fun x r => x = .d (.int .i64 (mvsE l)) ∧ r = []) := by
  refine spec_of hT (C := []) Tryz.func116 rfl Tryz.call116 rfl rfl rfl ?_
  conv => whnf
  refine br_intro (fun h0 => ?_) (fun h0 => ?_)
  · simp at h0
    conv => whnf
    refine .ret _ ?_
    conv => whnf
    refine ⟨[], ⟨?_, rfl⟩, trivial⟩
    conv => lhs; whnf
    unfold mvsE; rw [if_pos (by omega)]
  simp at h0
  conv => whnf
  refine LoopX.rule hT (C := []) (ι := Nat) (fun i => i ≤ l.length ∧ ∀ j, j < i → mvE l j = 0) (fun i => mkSt [(0, .d (movs l)), (8, .d (movs l)), (9, .d (.int .i64 l.length)), (10, .d (.int .i64 i))] []) (fun i => l.length - i) 0 ⟨by omega, by omega⟩ (by refine Entails.mk' [] rfl rfl ?_ ?_ <;> repeat' (first | exact True.intro | exact SV.le_refl _ | exact Res.le_refl _ | exact SV.le_int (by omega) | exact SV.le_any _ | refine And.intro ?_ ?_)) ?_
  rintro i ⟨p1, p2⟩
  have hx : (i : Int) < l.length → mvK (l.getD (i : Int).toNat mv0) := fun hi => hk.2 _ (getD_mem (by omega))
  have e1 : (i : Int).toNat = i := Int.toNat_natCast i
  have hbad : ∀ e : Int, i < l.length → e ≠ 0 → mvE l i = e → mvsE l = e := fun e h h1 h2 => by
    unfold mvsE; rw [if_neg (by omega)]
    exact firstAt_eq h p2 h1 h2
  conv => whnf
  repeat' (first
    | (refine CallX.exact (s108 _ (hx (by omega)).1) rfl rfl ?_; rotate_right; conv => whnf)
    | (refine CallX.exact (s108 _ (hx (by omega)).2) rfl rfl ?_; rotate_right; conv => whnf)
    | (refine CallX.exact (s204 _ _ _ _) rfl rfl ?_; rotate_right; conv => whnf)
    | (refine CallX.exact (s119 _ _ _) rfl rfl ?_; rotate_right; conv => whnf)
    | (refine br_intro (fun hb => ?_) (fun hb => ?_) <;> (try simp only [decide_eq_true_eq, decide_eq_false_iff_not, Bool.not_eq_true', Bool.not_eq_false', Bool.and_eq_true, Bool.or_eq_true, beq_iff_eq, not_and, Int.not_le, Int.not_lt, Int.toNat_natCast, beq_eq_false_iff_ne, ne_eq, eq_self, not_true_eq_false, not_false_eq_true] at hb) <;> (conv => whnf))
    | (refine RegX.rule (id := 10) hT rfl [] [(0, []), (1, []), (2, []), (3, []), (4, [3]), (5, [3]), (6, []), (7, []), (8, []), (9, [3, 4, 5, 6, 7, 8]), (10, [3, 4, 5, 6, 7, 8, 9]), (11, [3, 4, 5, 6, 7, 8, 9]), (12, [3, 4, 5, 6, 7, 8]), (13, [3, 4, 5, 6, 7, 8]), (14, [3, 4, 5, 6, 7, 8]), (15, [3, 4, 5, 6, 7, 8, 9, 10, 11, 12, 13, 14]), (16, [3, 4, 5, 6, 7, 8, 9, 10, 11, 12, 13, 14]), (17, [3, 4, 5, 6, 7, 8, 9, 10, 11, 12, 13, 14, 15, 16]), (18, [3, 4, 5, 6, 7, 8, 9, 10, 11, 12, 13, 14, 15, 16]), (19, []), (20, []), (21, []), (22, [])] (by decide +kernel) ?_; conv => whnf)
    | omega
    | (refine And.intro ?_ ?_; ((try dsimp only); first | omega | (refine ⟨by omega, by omega, Int.le_trans (Int.mul_le_mul_of_nonneg_right (Int.ofNat_le.2 (Nat.le_of_ble_eq_true (rfl : Nat.ble _ 1024 = true))) (by omega)) (by omega), by omega⟩) | (refine Nat.le_trans (Nat.mul_le_mul_left _ (Nat.le_of_ble_eq_true (rfl : Nat.ble _ 1024 = true))) ?_; omega) | (unfold inI64; omega) | (constructor <;> omega) | (simp only [inI64, List.length_cons, List.length_append, List.length_nil, List.length_set] at *; omega) | decide | (unfold inI64; decide)); conv => whnf)
    | omega | decide | assumption)
  all_goals first
    | (refine ⟨i + 1, ⟨by omega, first_step p2 (by clear p2 hbad hk hx; simp only [e1, toNat_pred] at *; unfold mvE ; grind)⟩, by omega, (by refine Entails.mk' [] rfl rfl ?_ ?_ <;> repeat' (first | exact True.intro | exact SV.le_refl _ | exact Res.le_refl _ | exact SV.le_int (by omega) | exact SV.le_any _ | refine And.intro ?_ ?_))⟩)
    | (refine .ret _ ?_
       conv => whnf
       refine ⟨[], ⟨?_, rfl⟩, trivial⟩
       conv => lhs; whnf
       congr 2
       first
         | exact (hbad _ (by omega) (by decide) (by clear p2 hbad hk hx; simp only [e1, toNat_pred] at *; unfold mvE ; grind)).symm
         | (have : i = l.length := by omega
            subst this
            unfold mvsE; rw [if_neg (by omega), firstAt_zero p2]))
def cmpSL : List (List UInt8) → List (List UInt8) → Int
  | [], [] => 0
  | [], _ :: _ => -1
  | _ :: _, [] => 1
  | x :: xs, y :: ys => if cmpS x y ≠ 0 then cmpS x y else cmpSL xs ys
-- slices.Compare of texts
theorem z204 (l m : List (List UInt8)) (hl : l.length ≤ 2^40) (hm : m.length ≤ 2^40) : FSpec Tryz.prog 204 [.d (strs l), .d (strs m)] [] (fun x r => x = .d (.int .i64 (cmpSL l m)) ∧ r = []) := by
  refine spec_of hT (C := []) Tryz.func204 rfl Tryz.call204 rfl rfl rfl ?_
  conv => whnf
  refine LoopX.rule hT (C := []) (ι := Nat) (fun i => i ≤ l.length ∧ i ≤ m.length ∧ cmpSL l m = cmpSL (l.drop i) (m.drop i)) (fun i => mkSt [(0, .d (strs l)), (1, .d (strs m)), (9, .d (strs l)), (10, .d (.int .i64 l.length)), (11, .d (.int .i64 i))] []) (fun i => l.length - i) 0 ⟨by omega, by omega, by simp⟩ (by refine Entails.mk' [] rfl rfl ?_ ?_ <;> repeat' (first | exact True.intro | exact SV.le_refl _ | exact Res.le_refl _ | exact SV.le_int (by omega) | exact SV.le_any _ | refine And.intro ?_ ?_)) ?_
  rintro i ⟨p1, p2, p3⟩
  have hd : i < l.length → l.drop i = l.getD i [] :: l.drop (i + 1) := fun hi => by rw [List.drop_eq_getElem_cons hi, List.getD_eq_getElem?_getD, List.getElem?_eq_getElem hi]; rfl
  have hd2 : i < m.length → m.drop i = m.getD i [] :: m.drop (i + 1) := fun hi => by rw [List.drop_eq_getElem_cons hi, List.getD_eq_getElem?_getD, List.getElem?_eq_getElem hi]; rfl
  have e1 : (i : Int).toNat = i := Int.toNat_natCast i
  conv => whnf
  repeat' (first
    | (refine CallX.exact (s184 _ _) rfl rfl ?_; rotate_right; conv => whnf)
    | (refine br_intro (fun hb => ?_) (fun hb => ?_) <;> (try simp only [decide_eq_true_eq, decide_eq_false_iff_not, Bool.not_eq_true', Bool.not_eq_false', Bool.and_eq_true, Bool.or_eq_true, beq_iff_eq, not_and, Int.not_le, Int.not_lt, Int.toNat_natCast, beq_eq_false_iff_ne, ne_eq, eq_self, not_true_eq_false, not_false_eq_true] at hb) <;> (conv => whnf))
    | omega
    | (refine And.intro ?_ ?_; ((try dsimp only); first | omega | (refine ⟨by omega, by omega, Int.le_trans (Int.mul_le_mul_of_nonneg_right (Int.ofNat_le.2 (Nat.le_of_ble_eq_true (rfl : Nat.ble _ 1024 = true))) (by omega)) (by omega), by omega⟩) | (refine Nat.le_trans (Nat.mul_le_mul_left _ (Nat.le_of_ble_eq_true (rfl : Nat.ble _ 1024 = true))) ?_; omega) | (unfold inI64; omega) | (constructor <;> omega) | (simp only [inI64, List.length_cons, List.length_append, List.length_nil, List.length_set] at *; omega) | decide | (unfold inI64; decide)); conv => whnf)
    | omega | decide | assumption)
  · refine .ret _ ?_
    conv => whnf
    refine ⟨[], ⟨?_, rfl⟩, trivial⟩
    conv => lhs; whnf
    congr 2
    rw [p3, hd (by omega), List.drop_eq_nil_iff.2 (by omega : m.length ≤ i)]; rfl
  · refine .ret _ ?_
    conv => whnf
    refine ⟨[], ⟨?_, rfl⟩, trivial⟩
    conv => lhs; whnf
    congr 2
    rw [p3, hd (by omega), hd2 (by omega), cmpSL, if_pos (by simpa using hb)]; simp only [e1]
  · refine ⟨i + 1, ⟨by omega, by omega, ?_⟩, by omega, (by refine Entails.mk' [] rfl rfl ?_ ?_ <;> repeat' (first | exact True.intro | exact SV.le_refl _ | exact Res.le_refl _ | exact SV.le_int (by omega) | exact SV.le_any _ | refine And.intro ?_ ?_))⟩
    rw [p3, hd (by omega), hd2 (by omega), cmpSL, if_neg (by simpa using hb)]
  · refine .ret _ ?_
    conv => whnf
    refine ⟨[], ⟨?_, rfl⟩, trivial⟩
    conv => lhs; whnf
    congr 2
    have hm : i < m.length := by omega
    rw [p3, hd2 hm, List.drop_eq_nil_iff.2 (by omega : l.length ≤ i)]; rfl
  · refine .ret _ ?_
    conv => whnf
    refine ⟨[], ⟨?_, rfl⟩, trivial⟩
    conv => lhs; whnf
    congr 2
    rw [p3, List.drop_eq_nil_iff.2 (by omega : m.length ≤ i), List.drop_eq_nil_iff.2 (by omega : l.length ≤ i)]; rfl
-- rentref2.two
theorem z108 (a b c d : List UInt8) : FSpec Tryz.prog 108 [.d (.str a), .d (.str b), .d (.str c), .d (.str d)] [] (fun x r => x = .d (.int .i64 (endsC a b c d)) ∧ r = []) := by
  have h := z204 [a, b] [c, d] (by simp) (by simp)
  rw [show cmpSL [a, b] [c, d] = endsC a b c d from by unfold endsC; simp only [cmpSL, firstE]; by_cases h1 : cmpS a c = 0 <;> by_cases h2 : cmpS b d = 0 <;> simp [h1, h2]] at h
  refine spec_of hT (C := []) Tryz.func108 rfl Tryz.call108 rfl rfl rfl ?_
  conv => whnf
  repeat' (first
    | (refine CallX.pure h ⟨SV.le_lit (by rfl) (by rfl), SV.le_lit (by rfl) (by rfl), trivial⟩ rfl ?_; conv => whnf)
    | (refine br_intro (fun hb => ?_) (fun hb => ?_) <;> (try simp only [decide_eq_true_eq, decide_eq_false_iff_not, Bool.not_eq_true', Bool.not_eq_false', Bool.and_eq_true, Bool.or_eq_true, beq_iff_eq, not_and, Int.not_le, Int.not_lt, Int.toNat_natCast, beq_eq_false_iff_ne, ne_eq, eq_self, not_true_eq_false, not_false_eq_true] at hb) <;> (conv => whnf))
    | omega
    | (refine And.intro ?_ ?_; ((try dsimp only); first | omega | (refine ⟨by omega, by omega, Int.le_trans (Int.mul_le_mul_of_nonneg_right (Int.ofNat_le.2 (Nat.le_of_ble_eq_true (rfl : Nat.ble _ 1024 = true))) (by omega)) (by omega), by omega⟩) | (refine Nat.le_trans (Nat.mul_le_mul_left _ (Nat.le_of_ble_eq_true (rfl : Nat.ble _ 1024 = true))) ?_; omega) | (unfold inI64; omega) | (constructor <;> omega) | (simp only [inI64, List.length_cons, List.length_append, List.length_nil, List.length_set] at *; omega) | decide | (unfold inI64; decide)); conv => whnf)
    | omega | decide | assumption)
  refine .ret _ ?_
  conv => whnf
  refine ⟨[], ⟨?_, rfl⟩, trivial⟩
  conv => lhs; whnf
-- MoveForm
theorem z25 (l : List Mov) (hk : mvOk l) : FSpec Tryz.prog 25 [.d (movs l)] [] (fun x r => x = .d (.int .i64 (mvsE l)) ∧ r = []) := by
  refine spec_of hT (C := []) Tryz.func25 rfl Tryz.call25 rfl rfl rfl ?_
  conv => whnf
  refine br_intro (fun h0 => ?_) (fun h0 => ?_)
  · simp at h0
    conv => whnf
    refine .ret _ ?_
    conv => whnf
    refine ⟨[], ⟨?_, rfl⟩, trivial⟩
    conv => lhs; whnf
    unfold mvsE; rw [if_pos (by omega)]
  simp at h0
  conv => whnf
  refine LoopX.rule hT (C := []) (ι := Nat) (fun i => i ≤ l.length ∧ ∀ j, j < i → mvE l j = 0) (fun i => mkSt [(0, .d (movs l)), (8, .d (movs l)), (9, .d (.int .i64 l.length)), (10, .d (.int .i64 i))] []) (fun i => l.length - i) 0 ⟨by omega, by omega⟩ (by refine Entails.mk' [] rfl rfl ?_ ?_ <;> repeat' (first | exact True.intro | exact SV.le_refl _ | exact Res.le_refl _ | exact SV.le_int (by omega) | exact SV.le_any _ | refine And.intro ?_ ?_)) ?_
  rintro i ⟨p1, p2⟩
  have hx : (i : Int) < l.length → mvK (l.getD (i : Int).toNat mv0) := fun hi => hk.2 _ (getD_mem (by omega))
  have e1 : (i : Int).toNat = i := Int.toNat_natCast i
  have hbad : ∀ e : Int, i < l.length → e ≠ 0 → mvE l i = e → mvsE l = e := fun e h h1 h2 => by
    unfold mvsE; rw [if_neg (by omega)]
    exact firstAt_eq h p2 h1 h2
  conv => whnf
  repeat' (first
    | (refine CallX.exact (s21 _ (hx (by omega)).1) rfl rfl ?_; rotate_right; conv => whnf)
    | (refine CallX.exact (s21 _ (hx (by omega)).2) rfl rfl ?_; rotate_right; conv => whnf)
    | (refine CallX.exact (z108 _ _ _ _) rfl rfl ?_; rotate_right; conv => whnf)
    | (refine CallX.exact (s109 _ _ _) rfl rfl ?_; rotate_right; conv => whnf)
    | (refine br_intro (fun hb => ?_) (fun hb => ?_) <;> (try simp only [decide_eq_true_eq, decide_eq_false_iff_not, Bool.not_eq_true', Bool.not_eq_false', Bool.and_eq_true, Bool.or_eq_true, beq_iff_eq, not_and, Int.not_le, Int.not_lt, Int.toNat_natCast, beq_eq_false_iff_ne, ne_eq, eq_self, not_true_eq_false, not_false_eq_true] at hb) <;> (conv => whnf))
    | (refine RegX.rule (id := 10) hT rfl [] [(0, []), (1, []), (2, []), (3, []), (4, [3]), (5, [3]), (6, []), (7, []), (8, []), (9, [3, 4, 5, 6, 7, 8]), (10, [3, 4, 5, 6, 7, 8, 9]), (11, [3, 4, 5, 6, 7, 8, 9]), (12, [3, 4, 5, 6, 7, 8]), (13, [3, 4, 5, 6, 7, 8]), (14, [3, 4, 5, 6, 7, 8]), (15, [3, 4, 5, 6, 7, 8, 9, 10, 11, 12, 13, 14]), (16, [3, 4, 5, 6, 7, 8, 9, 10, 11, 12, 13, 14]), (17, [3, 4, 5, 6, 7, 8, 9, 10, 11, 12, 13, 14, 15, 16]), (18, [3, 4, 5, 6, 7, 8, 9, 10, 11, 12, 13, 14, 15, 16]), (19, []), (20, []), (21, []), (22, [])] (by decide +kernel) ?_; conv => whnf)
    | omega
    | (refine And.intro ?_ ?_; ((try dsimp only); first | omega | (refine ⟨by omega, by omega, Int.le_trans (Int.mul_le_mul_of_nonneg_right (Int.ofNat_le.2 (Nat.le_of_ble_eq_true (rfl : Nat.ble _ 1024 = true))) (by omega)) (by omega), by omega⟩) | (refine Nat.le_trans (Nat.mul_le_mul_left _ (Nat.le_of_ble_eq_true (rfl : Nat.ble _ 1024 = true))) ?_; omega) | (unfold inI64; omega) | (constructor <;> omega) | (simp only [inI64, List.length_cons, List.length_append, List.length_nil, List.length_set] at *; omega) | decide | (unfold inI64; decide)); conv => whnf)
    | omega | decide | assumption)
  all_goals first
    | (refine ⟨i + 1, ⟨by omega, first_step p2 (by clear p2 hbad hk hx; simp only [e1, toNat_pred] at *; unfold mvE ; grind)⟩, by omega, (by refine Entails.mk' [] rfl rfl ?_ ?_ <;> repeat' (first | exact True.intro | exact SV.le_refl _ | exact Res.le_refl _ | exact SV.le_int (by omega) | exact SV.le_any _ | refine And.intro ?_ ?_))⟩)
    | (refine .ret _ ?_
       conv => whnf
       refine ⟨[], ⟨?_, rfl⟩, trivial⟩
       conv => lhs; whnf
       congr 2
       first
         | exact (hbad _ (by omega) (by decide) (by clear p2 hbad hk hx; simp only [e1, toNat_pred] at *; unfold mvE ; grind)).symm
         | (have : i = l.length := by omega
            subst this
            unfold mvsE; rw [if_neg (by omega), firstAt_zero p2]))
-- RoadsFault
theorem z21 (l : List Roa) (hk : rdOk l) : FSpec Tryz.prog 21 [.d (roas l)] [] (fun x r => x = .d (.int .i64 (rdsE l)) ∧ r = []) := by
  refine spec_of hT (C := []) Tryz.func21 rfl Tryz.call21 rfl rfl rfl ?_
  conv => whnf
  refine br_intro (fun h0 => ?_) (fun h0 => ?_)
  · simp at h0
    conv => whnf
    refine .ret _ ?_
    conv => whnf
    refine ⟨[], ⟨?_, rfl⟩, trivial⟩
    conv => lhs; whnf
    unfold rdsE; rw [if_pos (by omega)]
  simp at h0
  conv => whnf
  refine LoopX.rule hT (C := []) (ι := Nat) (fun i => i ≤ l.length ∧ ∀ j, j < i → rdE l j = 0) (fun i => mkSt [(0, .d (roas l)), (8, .d (roas l)), (9, .d (.int .i64 l.length)), (10, .d (.int .i64 i))] []) (fun i => l.length - i) 0 ⟨by omega, by omega⟩ (by refine Entails.mk' [] rfl rfl ?_ ?_ <;> repeat' (first | exact True.intro | exact SV.le_refl _ | exact Res.le_refl _ | exact SV.le_int (by omega) | exact SV.le_any _ | refine And.intro ?_ ?_)) ?_
  rintro i ⟨p1, p2⟩
  have hx : (i : Int) < l.length → rdK (l.getD (i : Int).toNat rd0) := fun hi => hk.2 _ (getD_mem (by omega))
  have e1 : (i : Int).toNat = i := Int.toNat_natCast i
  have hbad : ∀ e : Int, i < l.length → e ≠ 0 → rdE l i = e → rdsE l = e := fun e h h1 h2 => by
    unfold rdsE; rw [if_neg (by omega)]
    exact firstAt_eq h p2 h1 h2
  conv => whnf
  repeat' (first
    | (refine CallX.exact (s21 _ (hx (by omega)).1) rfl rfl ?_; rotate_right; conv => whnf)
    | (refine CallX.exact (s21 _ (hx (by omega)).2) rfl rfl ?_; rotate_right; conv => whnf)
    | (refine CallX.exact (z108 _ _ _ _) rfl rfl ?_; rotate_right; conv => whnf)
    | (refine CallX.exact (s109 _ _ _) rfl rfl ?_; rotate_right; conv => whnf)
    | (refine br_intro (fun hb => ?_) (fun hb => ?_) <;> (try simp only [decide_eq_true_eq, decide_eq_false_iff_not, Bool.not_eq_true', Bool.not_eq_false', Bool.and_eq_true, Bool.or_eq_true, beq_iff_eq, not_and, Int.not_le, Int.not_lt, Int.toNat_natCast, beq_eq_false_iff_ne, ne_eq, eq_self, not_true_eq_false, not_false_eq_true] at hb) <;> (conv => whnf))
    | (refine RegX.rule (id := 10) hT rfl [] [(0, []), (1, []), (2, []), (3, []), (4, [3]), (5, [3]), (6, []), (7, []), (8, []), (9, [3, 4, 5, 6, 7, 8]), (10, [3, 4, 5, 6, 7, 8, 9]), (11, [3, 4, 5, 6, 7, 8, 9]), (12, [3, 4, 5, 6, 7, 8]), (13, [3, 4, 5, 6, 7, 8]), (14, [3, 4, 5, 6, 7, 8]), (15, [3, 4, 5, 6, 7, 8, 9, 10, 11, 12, 13, 14]), (16, [3, 4, 5, 6, 7, 8, 9, 10, 11, 12, 13, 14]), (17, [3, 4, 5, 6, 7, 8, 9, 10, 11, 12, 13, 14, 15, 16]), (18, [3, 4, 5, 6, 7, 8, 9, 10, 11, 12, 13, 14, 15, 16]), (19, []), (20, []), (21, []), (22, [])] (by decide +kernel) ?_; conv => whnf)
    | omega
    | (refine And.intro ?_ ?_; ((try dsimp only); first | omega | (refine ⟨by omega, by omega, Int.le_trans (Int.mul_le_mul_of_nonneg_right (Int.ofNat_le.2 (Nat.le_of_ble_eq_true (rfl : Nat.ble _ 1024 = true))) (by omega)) (by omega), by omega⟩) | (refine Nat.le_trans (Nat.mul_le_mul_left _ (Nat.le_of_ble_eq_true (rfl : Nat.ble _ 1024 = true))) ?_; omega) | (unfold inI64; omega) | (constructor <;> omega) | (simp only [inI64, List.length_cons, List.length_append, List.length_nil, List.length_set] at *; omega) | decide | (unfold inI64; decide)); conv => whnf)
    | omega | decide | assumption)
  all_goals first
    | (refine ⟨i + 1, ⟨by omega, first_step p2 (by clear p2 hbad hk hx; simp only [e1, toNat_pred] at *; unfold rdE ; grind)⟩, by omega, (by refine Entails.mk' [] rfl rfl ?_ ?_ <;> repeat' (first | exact True.intro | exact SV.le_refl _ | exact Res.le_refl _ | exact SV.le_int (by omega) | exact SV.le_any _ | refine And.intro ?_ ?_))⟩)
    | (refine .ret _ ?_
       conv => whnf
       refine ⟨[], ⟨?_, rfl⟩, trivial⟩
       conv => lhs; whnf
       congr 2
       first
         | exact (hbad _ (by omega) (by decide) (by clear p2 hbad hk hx; simp only [e1, toNat_pred] at *; unfold rdE ; grind)).symm
         | (have : i = l.length := by omega
            subst this
            unfold rdsE; rw [if_neg (by omega), firstAt_zero p2]))
-- NeedsFault
theorem z20 (l : List Ned) (hk : ndOk l) : FSpec Tryz.prog 20 [.d (neds l)] [] (fun x r => x = .d (.int .i64 (ndsE l)) ∧ r = []) := by
  refine spec_of hT (C := []) Tryz.func20 rfl Tryz.call20 rfl rfl rfl ?_
  conv => whnf
  refine br_intro (fun h0 => ?_) (fun h0 => ?_)
  · simp at h0
    conv => whnf
    refine .ret _ ?_
    conv => whnf
    refine ⟨[], ⟨?_, rfl⟩, trivial⟩
    conv => lhs; whnf
    unfold ndsE; rw [if_pos (by omega)]
  simp at h0
  conv => whnf
  refine LoopX.rule hT (C := []) (ι := Nat) (fun i => i ≤ l.length ∧ ∀ j, j < i → ndE l j = 0) (fun i => mkSt [(3, .d (.str (if i = 0 then [] else (l.getD (i - 1) nd0).st))), (9, .d (neds l)), (10, .d (.int .i64 l.length)), (11, .d (.int .i64 i))] []) (fun i => l.length - i) 0 ⟨by omega, by omega⟩ (by refine Entails.mk' [] rfl rfl ?_ ?_ <;> repeat' (first | exact True.intro | exact SV.le_refl _ | exact Res.le_refl _ | exact SV.le_int (by omega) | exact SV.le_any _ | refine And.intro ?_ ?_)) ?_
  rintro i ⟨p1, p2⟩
  have hx : (i : Int) < l.length → ndK (l.getD (i : Int).toNat nd0) := fun hi => hk.2 _ (getD_mem (by omega))
  have e1 : (i : Int).toNat = i := Int.toNat_natCast i
  have hbad : ∀ e : Int, i < l.length → e ≠ 0 → ndE l i = e → ndsE l = e := fun e h h1 h2 => by
    unfold ndsE; rw [if_neg (by omega)]
    exact firstAt_eq h p2 h1 h2
  conv => whnf
  repeat' (first
    | (refine CallX.exact (s21 _ (hx (by omega))) rfl rfl ?_; rotate_right; conv => whnf)
    | (refine CallX.exact (s109 _ _ _) rfl rfl ?_; rotate_right; conv => whnf)
    | (refine br_intro (fun hb => ?_) (fun hb => ?_) <;> (try simp only [decide_eq_true_eq, decide_eq_false_iff_not, Bool.not_eq_true', Bool.not_eq_false', Bool.and_eq_true, Bool.or_eq_true, beq_iff_eq, not_and, Int.not_le, Int.not_lt, Int.toNat_natCast, beq_eq_false_iff_ne, ne_eq, eq_self, not_true_eq_false, not_false_eq_true] at hb) <;> (conv => whnf))
    | omega
    | (refine And.intro ?_ ?_; ((try dsimp only); first | omega | (refine ⟨by omega, by omega, Int.le_trans (Int.mul_le_mul_of_nonneg_right (Int.ofNat_le.2 (Nat.le_of_ble_eq_true (rfl : Nat.ble _ 1024 = true))) (by omega)) (by omega), by omega⟩) | (refine Nat.le_trans (Nat.mul_le_mul_left _ (Nat.le_of_ble_eq_true (rfl : Nat.ble _ 1024 = true))) ?_; omega) | (unfold inI64; omega) | (constructor <;> omega) | (simp only [inI64, List.length_cons, List.length_append, List.length_nil, List.length_set] at *; omega) | decide | (unfold inI64; decide)); conv => whnf)
    | omega | decide | assumption)
  all_goals first
    | (refine ⟨i + 1, ⟨by omega, first_step p2 (by clear p2 hbad hk hx; simp only [e1] at *; unfold ndE strLe; grind)⟩, by omega, Entails.mk' [] rfl rfl ⟨(by rw [show (if i + 1 = 0 then ([] : List UInt8) else (l.getD (i + 1 - 1) nd0).st) = (l.getD (i : Int).toNat nd0).st from by rw [if_neg (by omega), e1, Nat.add_sub_cancel]]; exact SV.le_refl _), SV.le_refl _, SV.le_refl _, SV.le_refl _, trivial⟩ trivial⟩)
    | (refine .ret _ ?_
       conv => whnf
       refine ⟨[], ⟨?_, rfl⟩, trivial⟩
       conv => lhs; whnf
       congr 2
       first
         | exact (hbad _ (by omega) (by decide) (by clear p2 hbad hk hx; simp only [e1] at *; unfold ndE strLe; grind [isKey_nil, less_nil])).symm
         | (have : i = l.length := by omega
            subst this
            unfold ndsE; rw [if_neg (by omega), firstAt_zero p2]))
def drvE (l : List Roa) (start : List UInt8) (m : List Mov) : Int := firstE [rdsE l, if isKeyB start = true then 0 else 5, mvsE m]
-- shift.checkDriver
theorem z134 (l : List Roa) (start : List UInt8) (m : List Mov) (hl : rdOk l) (hs : start.length ≤ 2^40) (hm : mvOk m) : FSpec Tryz.prog 134 [.d (roas l), .d (.str start), .d (movs m)] [] (fun x r => x = .d (.int .i64 (drvE l start m)) ∧ r = []) := by
  have h := s105 [rdsE l, if (!isKeyB start) = true then 5 else 0, mvsE m] (by simp)
  rw [show firstE [rdsE l, if (!isKeyB start) = true then 5 else 0, mvsE m] = drvE l start m from by unfold drvE; cases isKeyB start <;> rfl] at h
  refine spec_of hT (C := []) Tryz.func134 rfl Tryz.call134 rfl rfl rfl ?_
  conv => whnf
  repeat' (first
    | (refine CallX.exact (s164 l hl) rfl rfl ?_; rotate_right; conv => whnf)
    | (refine CallX.exact (s108 start hs) rfl rfl ?_; rotate_right; conv => whnf)
    | (refine CallX.exact (s107 _ _) rfl rfl ?_; rotate_right; conv => whnf)
    | (refine CallX.exact (z116 m hm) rfl rfl ?_; rotate_right; conv => whnf)
    | (refine CallX.pure h ⟨SV.le_lit (by rfl) (by rfl), trivial⟩ rfl ?_; conv => whnf)
    | (refine br_intro (fun hb => ?_) (fun hb => ?_) <;> (try simp only [decide_eq_true_eq, decide_eq_false_iff_not, Bool.not_eq_true', Bool.not_eq_false', Bool.and_eq_true, Bool.or_eq_true, beq_iff_eq, not_and, Int.not_le, Int.not_lt, Int.toNat_natCast, beq_eq_false_iff_ne, ne_eq, eq_self, not_true_eq_false, not_false_eq_true] at hb) <;> (conv => whnf))
    | omega
    | (refine And.intro ?_ ?_; ((try dsimp only); first | omega | (refine ⟨by omega, by omega, Int.le_trans (Int.mul_le_mul_of_nonneg_right (Int.ofNat_le.2 (Nat.le_of_ble_eq_true (rfl : Nat.ble _ 1024 = true))) (by omega)) (by omega), by omega⟩) | (refine Nat.le_trans (Nat.mul_le_mul_left _ (Nat.le_of_ble_eq_true (rfl : Nat.ble _ 1024 = true))) ?_; omega) | (unfold inI64; omega) | (constructor <;> omega) | (simp only [inI64, List.length_cons, List.length_append, List.length_nil, List.length_set] at *; omega) | decide | (unfold inI64; decide)); conv => whnf)
    | omega | decide | assumption)
  refine .ret _ ?_
  conv => whnf
  refine ⟨[], ⟨?_, rfl⟩, trivial⟩
  conv => lhs; whnf
end Go.Proofs.YtnkdlkgannnfhaaGreatDoor
set_option maxRecDepth 20000
namespace Go.Proofs.YtnkdlkgannnfhaaGreatDoor
open Go Go.Eng
structure Prg where
  a : Int
  b : Int
theorem prg_eq {a b : Prg} : a = b ↔ a.a = b.a ∧ a.b = b.b := by cases a; cases b; simp
instance : DecidableEq Prg := fun _ _ => decidable_of_iff _ prg_eq.symm
abbrev MSt := List Prg × Int
/-- Pairings of some marks: from i on, to a's end. -/
structure mOk (a b : List Mrk) (m : MSt) : Prop where
  ins : ∀ p ∈ m.1, ∃ i k : Nat, p = ⟨i, k⟩ ∧ i < a.length ∧ k < b.length
  sum : 0 ≤ m.2 ∧ m.2 ≤ 100000000 * m.1.length
/-- Where the run ends that begins at i. -/
def runN (a : List Mrk) (m : Mrk) : Nat → Nat → Nat
  | 0, i => i
  | d + 1, i => if sameM (a.getD i mk0) m then runN a m d (i + 1) else i
end Go.Proofs.YtnkdlkgannnfhaaGreatDoor
set_option maxRecDepth 20000
namespace Go.Proofs.YtnkdlkgannnfhaaGreatDoor
open Go Go.Eng
/-- x is reached from j by at most t steps. -/
def pathN (n : Nat) (J : Nat → Nat → Bool) : Nat → Nat → Nat → Prop
  | 0, j, x => j = x
  | t + 1, j, x => pathN n J t j x ∨ ∃ y, y < n ∧ pathN n J t j y ∧ J x y = true
def conN (n : Nat) (J : Nat → Nat → Bool) (j x : Nat) : Prop := ∃ t, pathN n J t j x
theorem con_refl {n : Nat} {J : Nat → Nat → Bool} (j : Nat) : conN n J j j := ⟨0, rfl⟩
theorem con_step {n : Nat} {J : Nat → Nat → Bool} {j x y : Nat} (h : conN n J j y) (hy : y < n) (hJ : J x y = true) : conN n J j x := by
  obtain ⟨t, h⟩ := h
  exact ⟨t + 1, .inr ⟨y, hy, h, hJ⟩⟩
open Classical in
/-- A label for each: the least number it is joined with. -/
structure isLab (n : Nat) (J : Nat → Nat → Bool) (f : Nat → Nat) : Prop where
  con : ∀ x, x < n → f x < n ∧ conN n J (f x) x
  least : ∀ j x, x < n → conN n J j x → f x ≤ j
theorem isLab.le {n : Nat} {J : Nat → Nat → Bool} {f : Nat → Nat} (h : isLab n J f) {x : Nat} (hx : x < n) : f x ≤ x := h.least x x hx (con_refl x)
theorem isLab.same {n : Nat} {J : Nat → Nat → Bool} {f : Nat → Nat} (h : isLab n J f) (hs : ∀ i k, J i k = J k i) {x y : Nat} (hx : x < n) (hy : y < n) (hJ : J x y = true) : f x = f y := by
  have h1 := h.least _ x hx (con_step (h.con y hy).2 hy hJ)
  have h2 := h.least _ y hy (con_step (h.con x hx).2 hx (by rw [hs]; exact hJ))
  omega
theorem isLab.con_same {n : Nat} {J : Nat → Nat → Bool} {f : Nat → Nat} (h : isLab n J f) (hs : ∀ i k, J i k = J k i) {j x : Nat} (hj : j < n) (hx : x < n) (hc : conN n J j x) : f x = f j := by
  obtain ⟨t, hc⟩ := hc
  induction t generalizing x with
  | zero => cases hc; rfl
  | succ t ih =>
    rcases hc with hc | ⟨y, hy, h1, h2⟩
    · exact ih hx hc
    · rw [h.same hs hx hy h2]; exact ih hy h1
theorem isLab.idem {n : Nat} {J : Nat → Nat → Bool} {f : Nat → Nat} (h : isLab n J f) (hs : ∀ i k, J i k = J k i) {x : Nat} (hx : x < n) : f (f x) = f x :=
  (h.con_same hs (h.con x hx).1 hx (h.con x hx).2).symm
def grpF (n : Nat) (f : Nat → Nat) (i : Nat) : List Nat := (List.range n).filter fun k => f k == i
theorem isLab.none {n : Nat} {J : Nat → Nat → Bool} {f : Nat → Nat} (h : isLab n J f) (hs : ∀ i k, J i k = J k i) {i : Nat} (hi : f i ≠ i) : grpF n f i = [] := by
  unfold grpF
  rw [List.filter_eq_nil_iff]
  intro x hx
  have hx := List.mem_range.1 hx
  intro q
  have q : f x = i := by simpa using q
  have := h.idem hs hx
  rw [q] at this
  exact hi this
theorem isLab.some {n : Nat} {f : Nat → Nat} {i : Nat} (hi : i < n) (h : f i = i) : i ∈ grpF n f i := by
  unfold grpF
  rw [List.mem_filter]
  exact ⟨List.mem_range.2 hi, by simpa using h⟩
/-- A search from i, with the first m of g behind it: seen is what lies before, or in g. -/
structure bfs (n : Nat) (J : Nat → Nat → Bool) (f : Nat → Nat) (i : Nat) (seen : Nat → Bool) (g : List Nat) : Prop where
  nodup : g.Nodup
  first : i ∈ g
  ins : ∀ x ∈ g, x < n ∧ f x = i
  seen : ∀ k, k < n → (seen k = true ↔ f k < i ∨ k ∈ g)
theorem bfs.start {n : Nat} {J : Nat → Nat → Bool} {f : Nat → Nat} {i : Nat} {seen seen' : Nat → Bool} (hi : i < n) (hf : f i = i) (hs : ∀ k, k < n → (seen k = true ↔ f k < i)) (h1 : seen' i = true) (h2 : ∀ k, k ≠ i → seen' k = seen k) : bfs n J f i seen' [i] where
  nodup := by simp
  first := by simp
  ins := fun x hx => by simp at hx; subst hx; exact ⟨hi, hf⟩
  seen := fun k hk => by
    by_cases q : k = i
    · subst q; simp [h1]
    · rw [h2 k q, hs k hk]; simp [q]
theorem bfs.add {n : Nat} {J : Nat → Nat → Bool} {f : Nat → Nat} {i : Nat} {seen seen' : Nat → Bool} {g : List Nat} (h : bfs n J f i seen g) (hl : isLab n J f) (hs : ∀ i k, J i k = J k i) {x k : Nat} (hx : x ∈ g) (hk : k < n) (hJ : J k x = true) (hu : seen k = false)
    (h1 : seen' k = true) (h2 : ∀ y, y ≠ k → seen' y = seen y) : bfs n J f i seen' (g ++ [k]) where
  nodup := by
    rw [List.nodup_append]
    refine ⟨h.nodup, by simp, fun a ha b hb => ?_⟩
    simp at hb
    subst hb
    intro q
    subst q
    have := (h.seen a hk).2 (.inr ha)
    rw [hu] at this; cases this
  first := List.mem_append_left _ h.first
  ins := fun y hy => by
    rcases List.mem_append.1 hy with q | q
    · exact h.ins y q
    · simp at q; subst q
      have := h.ins x hx
      exact ⟨hk, by rw [hl.same hs hk this.1 hJ]; exact this.2⟩
  seen := fun y hy => by
    by_cases q : y = k
    · subst q; simp [h1]
    · rw [h2 y q, h.seen y hy]; simp [q]
/-- At the search's end g has them all. -/
theorem bfs.all {n : Nat} {J : Nat → Nat → Bool} {f : Nat → Nat} {i : Nat} {seen : Nat → Bool} {g : List Nat} (h : bfs n J f i seen g) (hl : isLab n J f) (hs : ∀ i k, J i k = J k i) (hc : ∀ x, x ∈ g → ∀ k, k < n → J k x = true → seen k = true) :
    ∀ k, k < n → (k ∈ g ↔ f k = i) := by
  intro k hk
  constructor
  · intro q; exact (h.ins k q).2
  · intro q
    have hcon := (hl.con k hk).2
    rw [q] at hcon
    obtain ⟨t, hcon⟩ := hcon
    clear q
    induction t generalizing k with
    | zero => cases hcon; exact h.first
    | succ t ih =>
      rcases hcon with hcon | ⟨y, hy, h1, h2⟩
      · exact ih k hk hcon
      · have hy' := ih y hy h1
        have h3 := hc y hy' k hk h2
        rcases (h.seen k hk).1 h3 with q | q
        · have := hl.same hs hk hy h2
          have := (h.ins y hy').2
          omega
        · exact q
theorem bfs.next {n : Nat} {J : Nat → Nat → Bool} {f : Nat → Nat} {i : Nat} {seen : Nat → Bool} {g : List Nat} (h : bfs n J f i seen g) (ha : ∀ k, k < n → (k ∈ g ↔ f k = i)) : ∀ k, k < n → (seen k = true ↔ f k < i + 1) := by
  intro k hk
  rw [h.seen k hk, ha k hk]; omega
/-- The numbers of the reference, lowered: t rounds are behind, and of the next one all before i, and i's own with all before k. -/
structure lowI (n : Nat) (J : Nat → Nat → Bool) (o : Nat → Nat) (t i k : Nat) : Prop where
  con : ∀ x, x < n → o x < n ∧ conN n J (o x) x
  all : ∀ j x, x < n → pathN n J t j x → o x ≤ j
  done : ∀ j x, x < n → x < i → pathN n J (t + 1) j x → o x ≤ j
  part : ∀ j y, i < n → y < k → y < n → J i y = true → pathN n J t j y → o i ≤ j
theorem lowI.start {n : Nat} {J : Nat → Nat → Bool} {o : Nat → Nat} (h : ∀ x, x < n → o x = x) : lowI n J o 0 0 0 where
  con := fun x hx => by rw [h x hx]; exact ⟨hx, con_refl x⟩
  all := fun j x hx hp => by cases hp; rw [h j hx]; exact Nat.le_refl _
  done := fun j x _ hx => by omega
  part := fun j y _ hy => by omega
theorem lowI.skip {n : Nat} {J : Nat → Nat → Bool} {o : Nat → Nat} {t i k : Nat} (h : lowI n J o t i k) (hJ : J i k = false) : lowI n J o t i (k + 1) where
  con := h.con
  all := h.all
  done := h.done
  part := fun j y hi hy hyn h1 h2 => by
    by_cases q : y = k
    · subst q; rw [hJ] at h1; cases h1
    · exact h.part j y hi (by omega) hyn h1 h2
theorem lowI.put {n : Nat} {J : Nat → Nat → Bool} {o o' : Nat → Nat} {t i k : Nat} (h : lowI n J o t i k) (hi : i < n) (hk : k < n) (hJ : J i k = true) (h1 : o' i = min (o i) (o k)) (h2 : ∀ x, x ≠ i → o' x = o x) : lowI n J o' t i (k + 1) := by
  have hle : ∀ x, o' x ≤ o x := fun x => by
    by_cases q : x = i
    · subst q; rw [h1]; exact Nat.min_le_left _ _
    · rw [h2 x q]; exact Nat.le_refl _
  refine ⟨fun x hx => ?_, fun j x hx hp => Nat.le_trans (hle x) (h.all j x hx hp), fun j x hx hxi hp => Nat.le_trans (hle x) (h.done j x hx hxi hp), fun j y hi' hy hyn hy1 hy2 => ?_⟩
  · by_cases q : x = i
    · subst q
      rw [h1]
      rcases Nat.le_total (o x) (o k) with q | q
      · rw [Nat.min_eq_left q]; exact h.con x hx
      · rw [Nat.min_eq_right q]; exact ⟨(h.con k hk).1, con_step (h.con k hk).2 hk hJ⟩
    · rw [h2 x q]; exact h.con x hx
  · by_cases q : y = k
    · subst q
      rw [h1]
      exact Nat.le_trans (Nat.min_le_right _ _) (h.all j y hyn hy2)
    · exact Nat.le_trans (hle i) (h.part j y hi' (by omega) hyn hy1 hy2)
theorem lowI.next {n : Nat} {J : Nat → Nat → Bool} {o : Nat → Nat} {t i : Nat} (h : lowI n J o t i n) (hi : i < n) : lowI n J o t (i + 1) 0 where
  con := h.con
  all := h.all
  done := fun j x hx hxi hp => by
    by_cases q : x = i
    · subst q
      rcases hp with hp | ⟨y, hy, h1, h2⟩
      · exact h.all j x hx hp
      · exact h.part j y hi hy hy h2 h1
    · exact h.done j x hx (by omega) hp
  part := fun j y _ hy => by omega
theorem lowI.round {n : Nat} {J : Nat → Nat → Bool} {o : Nat → Nat} {t : Nat} (h : lowI n J o t n 0) : lowI n J o (t + 1) 0 0 where
  con := h.con
  all := fun j x hx hp => h.done j x hx hx hp
  done := fun j x _ hx => by omega
  part := fun j y _ hy => by omega
end Go.Proofs.YtnkdlkgannnfhaaGreatDoor
set_option maxRecDepth 20000
namespace Go.Proofs.YtnkdlkgannnfhaaGreatDoor
open Go Go.Eng
theorem s221_0 : FSpec Tryz.prog 258 [.d (.int .u64 0)] [] (fun y r => (∃ m : Int, y = .d (.int .i64 m)) ∧ r = []) := by
  refine spec_of hT (C := []) Tryz.func258 rfl Tryz.call258 rfl rfl rfl ?_
  conv => whnf
  repeat' (first
    | (refine br_intro (fun hb => ?_) (fun hb => ?_) <;> (try simp only [decide_eq_true_eq, decide_eq_false_iff_not, Bool.not_eq_true', Bool.not_eq_false', Bool.and_eq_true, Bool.or_eq_true, beq_iff_eq, not_and, Int.not_le, Int.not_lt, Int.toNat_natCast, beq_eq_false_iff_ne, ne_eq, eq_self, not_true_eq_false, not_false_eq_true] at hb) <;> (conv => whnf))
    | omega
    | (refine And.intro ?_ ?_; ((try dsimp only); first | omega | (refine ⟨by omega, by omega, Int.le_trans (Int.mul_le_mul_of_nonneg_right (Int.ofNat_le.2 (Nat.le_of_ble_eq_true (rfl : Nat.ble _ 1024 = true))) (by omega)) (by omega), by omega⟩) | (refine Nat.le_trans (Nat.mul_le_mul_left _ (Nat.le_of_ble_eq_true (rfl : Nat.ble _ 1024 = true))) ?_; omega) | (unfold inI64; omega) | (constructor <;> omega) | (simp only [inI64, List.length_cons, List.length_append, List.length_nil, List.length_set] at *; omega) | decide | (unfold inI64; decide)); conv => whnf)
    | omega | decide | assumption)
  refine .ret _ ?_
  conv => whnf
  exact ⟨[], ⟨⟨_, rfl⟩, rfl⟩, trivial⟩
theorem s221_1 : FSpec Tryz.prog 258 [.d (.int .u64 1)] [] (fun y r => (∃ m : Int, y = .d (.int .i64 m)) ∧ r = []) := by
  refine spec_of hT (C := []) Tryz.func258 rfl Tryz.call258 rfl rfl rfl ?_
  conv => whnf
  repeat' (first
    | (refine br_intro (fun hb => ?_) (fun hb => ?_) <;> (try simp only [decide_eq_true_eq, decide_eq_false_iff_not, Bool.not_eq_true', Bool.not_eq_false', Bool.and_eq_true, Bool.or_eq_true, beq_iff_eq, not_and, Int.not_le, Int.not_lt, Int.toNat_natCast, beq_eq_false_iff_ne, ne_eq, eq_self, not_true_eq_false, not_false_eq_true] at hb) <;> (conv => whnf))
    | omega
    | (refine And.intro ?_ ?_; ((try dsimp only); first | omega | (refine ⟨by omega, by omega, Int.le_trans (Int.mul_le_mul_of_nonneg_right (Int.ofNat_le.2 (Nat.le_of_ble_eq_true (rfl : Nat.ble _ 1024 = true))) (by omega)) (by omega), by omega⟩) | (refine Nat.le_trans (Nat.mul_le_mul_left _ (Nat.le_of_ble_eq_true (rfl : Nat.ble _ 1024 = true))) ?_; omega) | (unfold inI64; omega) | (constructor <;> omega) | (simp only [inI64, List.length_cons, List.length_append, List.length_nil, List.length_set] at *; omega) | decide | (unfold inI64; decide)); conv => whnf)
    | omega | decide | assumption)
  refine .ret _ ?_
  conv => whnf
  exact ⟨[], ⟨⟨_, rfl⟩, rfl⟩, trivial⟩
theorem s221_2 : FSpec Tryz.prog 258 [.d (.int .u64 2)] [] (fun y r => (∃ m : Int, y = .d (.int .i64 m)) ∧ r = []) := by
  refine spec_of hT (C := []) Tryz.func258 rfl Tryz.call258 rfl rfl rfl ?_
  conv => whnf
  repeat' (first
    | (refine br_intro (fun hb => ?_) (fun hb => ?_) <;> (try simp only [decide_eq_true_eq, decide_eq_false_iff_not, Bool.not_eq_true', Bool.not_eq_false', Bool.and_eq_true, Bool.or_eq_true, beq_iff_eq, not_and, Int.not_le, Int.not_lt, Int.toNat_natCast, beq_eq_false_iff_ne, ne_eq, eq_self, not_true_eq_false, not_false_eq_true] at hb) <;> (conv => whnf))
    | omega
    | (refine And.intro ?_ ?_; ((try dsimp only); first | omega | (refine ⟨by omega, by omega, Int.le_trans (Int.mul_le_mul_of_nonneg_right (Int.ofNat_le.2 (Nat.le_of_ble_eq_true (rfl : Nat.ble _ 1024 = true))) (by omega)) (by omega), by omega⟩) | (refine Nat.le_trans (Nat.mul_le_mul_left _ (Nat.le_of_ble_eq_true (rfl : Nat.ble _ 1024 = true))) ?_; omega) | (unfold inI64; omega) | (constructor <;> omega) | (simp only [inI64, List.length_cons, List.length_append, List.length_nil, List.length_set] at *; omega) | decide | (unfold inI64; decide)); conv => whnf)
    | omega | decide | assumption)
  refine .ret _ ?_
  conv => whnf
  exact ⟨[], ⟨⟨_, rfl⟩, rfl⟩, trivial⟩
theorem s221_3 : FSpec Tryz.prog 258 [.d (.int .u64 3)] [] (fun y r => (∃ m : Int, y = .d (.int .i64 m)) ∧ r = []) := by
  refine spec_of hT (C := []) Tryz.func258 rfl Tryz.call258 rfl rfl rfl ?_
  conv => whnf
  repeat' (first
    | (refine br_intro (fun hb => ?_) (fun hb => ?_) <;> (try simp only [decide_eq_true_eq, decide_eq_false_iff_not, Bool.not_eq_true', Bool.not_eq_false', Bool.and_eq_true, Bool.or_eq_true, beq_iff_eq, not_and, Int.not_le, Int.not_lt, Int.toNat_natCast, beq_eq_false_iff_ne, ne_eq, eq_self, not_true_eq_false, not_false_eq_true] at hb) <;> (conv => whnf))
    | omega
    | (refine And.intro ?_ ?_; ((try dsimp only); first | omega | (refine ⟨by omega, by omega, Int.le_trans (Int.mul_le_mul_of_nonneg_right (Int.ofNat_le.2 (Nat.le_of_ble_eq_true (rfl : Nat.ble _ 1024 = true))) (by omega)) (by omega), by omega⟩) | (refine Nat.le_trans (Nat.mul_le_mul_left _ (Nat.le_of_ble_eq_true (rfl : Nat.ble _ 1024 = true))) ?_; omega) | (unfold inI64; omega) | (constructor <;> omega) | (simp only [inI64, List.length_cons, List.length_append, List.length_nil, List.length_set] at *; omega) | decide | (unfold inI64; decide)); conv => whnf)
    | omega | decide | assumption)
  refine .ret _ ?_
  conv => whnf
  exact ⟨[], ⟨⟨_, rfl⟩, rfl⟩, trivial⟩
theorem s221_4 : FSpec Tryz.prog 258 [.d (.int .u64 4)] [] (fun y r => (∃ m : Int, y = .d (.int .i64 m)) ∧ r = []) := by
  refine spec_of hT (C := []) Tryz.func258 rfl Tryz.call258 rfl rfl rfl ?_
  conv => whnf
  repeat' (first
    | (refine br_intro (fun hb => ?_) (fun hb => ?_) <;> (try simp only [decide_eq_true_eq, decide_eq_false_iff_not, Bool.not_eq_true', Bool.not_eq_false', Bool.and_eq_true, Bool.or_eq_true, beq_iff_eq, not_and, Int.not_le, Int.not_lt, Int.toNat_natCast, beq_eq_false_iff_ne, ne_eq, eq_self, not_true_eq_false, not_false_eq_true] at hb) <;> (conv => whnf))
    | omega
    | (refine And.intro ?_ ?_; ((try dsimp only); first | omega | (refine ⟨by omega, by omega, Int.le_trans (Int.mul_le_mul_of_nonneg_right (Int.ofNat_le.2 (Nat.le_of_ble_eq_true (rfl : Nat.ble _ 1024 = true))) (by omega)) (by omega), by omega⟩) | (refine Nat.le_trans (Nat.mul_le_mul_left _ (Nat.le_of_ble_eq_true (rfl : Nat.ble _ 1024 = true))) ?_; omega) | (unfold inI64; omega) | (constructor <;> omega) | (simp only [inI64, List.length_cons, List.length_append, List.length_nil, List.length_set] at *; omega) | decide | (unfold inI64; decide)); conv => whnf)
    | omega | decide | assumption)
  refine .ret _ ?_
  conv => whnf
  exact ⟨[], ⟨⟨_, rfl⟩, rfl⟩, trivial⟩
theorem s221_5 : FSpec Tryz.prog 258 [.d (.int .u64 5)] [] (fun y r => (∃ m : Int, y = .d (.int .i64 m)) ∧ r = []) := by
  refine spec_of hT (C := []) Tryz.func258 rfl Tryz.call258 rfl rfl rfl ?_
  conv => whnf
  repeat' (first
    | (refine br_intro (fun hb => ?_) (fun hb => ?_) <;> (try simp only [decide_eq_true_eq, decide_eq_false_iff_not, Bool.not_eq_true', Bool.not_eq_false', Bool.and_eq_true, Bool.or_eq_true, beq_iff_eq, not_and, Int.not_le, Int.not_lt, Int.toNat_natCast, beq_eq_false_iff_ne, ne_eq, eq_self, not_true_eq_false, not_false_eq_true] at hb) <;> (conv => whnf))
    | omega
    | (refine And.intro ?_ ?_; ((try dsimp only); first | omega | (refine ⟨by omega, by omega, Int.le_trans (Int.mul_le_mul_of_nonneg_right (Int.ofNat_le.2 (Nat.le_of_ble_eq_true (rfl : Nat.ble _ 1024 = true))) (by omega)) (by omega), by omega⟩) | (refine Nat.le_trans (Nat.mul_le_mul_left _ (Nat.le_of_ble_eq_true (rfl : Nat.ble _ 1024 = true))) ?_; omega) | (unfold inI64; omega) | (constructor <;> omega) | (simp only [inI64, List.length_cons, List.length_append, List.length_nil, List.length_set] at *; omega) | decide | (unfold inI64; decide)); conv => whnf)
    | omega | decide | assumption)
  refine .ret _ ?_
  conv => whnf
  exact ⟨[], ⟨⟨_, rfl⟩, rfl⟩, trivial⟩
theorem s221_6 : FSpec Tryz.prog 258 [.d (.int .u64 6)] [] (fun y r => (∃ m : Int, y = .d (.int .i64 m)) ∧ r = []) := by
  refine spec_of hT (C := []) Tryz.func258 rfl Tryz.call258 rfl rfl rfl ?_
  conv => whnf
  repeat' (first
    | (refine br_intro (fun hb => ?_) (fun hb => ?_) <;> (try simp only [decide_eq_true_eq, decide_eq_false_iff_not, Bool.not_eq_true', Bool.not_eq_false', Bool.and_eq_true, Bool.or_eq_true, beq_iff_eq, not_and, Int.not_le, Int.not_lt, Int.toNat_natCast, beq_eq_false_iff_ne, ne_eq, eq_self, not_true_eq_false, not_false_eq_true] at hb) <;> (conv => whnf))
    | omega
    | (refine And.intro ?_ ?_; ((try dsimp only); first | omega | (refine ⟨by omega, by omega, Int.le_trans (Int.mul_le_mul_of_nonneg_right (Int.ofNat_le.2 (Nat.le_of_ble_eq_true (rfl : Nat.ble _ 1024 = true))) (by omega)) (by omega), by omega⟩) | (refine Nat.le_trans (Nat.mul_le_mul_left _ (Nat.le_of_ble_eq_true (rfl : Nat.ble _ 1024 = true))) ?_; omega) | (unfold inI64; omega) | (constructor <;> omega) | (simp only [inI64, List.length_cons, List.length_append, List.length_nil, List.length_set] at *; omega) | decide | (unfold inI64; decide)); conv => whnf)
    | omega | decide | assumption)
  refine .ret _ ?_
  conv => whnf
  exact ⟨[], ⟨⟨_, rfl⟩, rfl⟩, trivial⟩
theorem s221_7 : FSpec Tryz.prog 258 [.d (.int .u64 7)] [] (fun y r => (∃ m : Int, y = .d (.int .i64 m)) ∧ r = []) := by
  refine spec_of hT (C := []) Tryz.func258 rfl Tryz.call258 rfl rfl rfl ?_
  conv => whnf
  repeat' (first
    | (refine br_intro (fun hb => ?_) (fun hb => ?_) <;> (try simp only [decide_eq_true_eq, decide_eq_false_iff_not, Bool.not_eq_true', Bool.not_eq_false', Bool.and_eq_true, Bool.or_eq_true, beq_iff_eq, not_and, Int.not_le, Int.not_lt, Int.toNat_natCast, beq_eq_false_iff_ne, ne_eq, eq_self, not_true_eq_false, not_false_eq_true] at hb) <;> (conv => whnf))
    | omega
    | (refine And.intro ?_ ?_; ((try dsimp only); first | omega | (refine ⟨by omega, by omega, Int.le_trans (Int.mul_le_mul_of_nonneg_right (Int.ofNat_le.2 (Nat.le_of_ble_eq_true (rfl : Nat.ble _ 1024 = true))) (by omega)) (by omega), by omega⟩) | (refine Nat.le_trans (Nat.mul_le_mul_left _ (Nat.le_of_ble_eq_true (rfl : Nat.ble _ 1024 = true))) ?_; omega) | (unfold inI64; omega) | (constructor <;> omega) | (simp only [inI64, List.length_cons, List.length_append, List.length_nil, List.length_set] at *; omega) | decide | (unfold inI64; decide)); conv => whnf)
    | omega | decide | assumption)
  refine .ret _ ?_
  conv => whnf
  exact ⟨[], ⟨⟨_, rfl⟩, rfl⟩, trivial⟩
theorem s221_8 : FSpec Tryz.prog 258 [.d (.int .u64 8)] [] (fun y r => (∃ m : Int, y = .d (.int .i64 m)) ∧ r = []) := by
  refine spec_of hT (C := []) Tryz.func258 rfl Tryz.call258 rfl rfl rfl ?_
  conv => whnf
  repeat' (first
    | (refine br_intro (fun hb => ?_) (fun hb => ?_) <;> (try simp only [decide_eq_true_eq, decide_eq_false_iff_not, Bool.not_eq_true', Bool.not_eq_false', Bool.and_eq_true, Bool.or_eq_true, beq_iff_eq, not_and, Int.not_le, Int.not_lt, Int.toNat_natCast, beq_eq_false_iff_ne, ne_eq, eq_self, not_true_eq_false, not_false_eq_true] at hb) <;> (conv => whnf))
    | omega
    | (refine And.intro ?_ ?_; ((try dsimp only); first | omega | (refine ⟨by omega, by omega, Int.le_trans (Int.mul_le_mul_of_nonneg_right (Int.ofNat_le.2 (Nat.le_of_ble_eq_true (rfl : Nat.ble _ 1024 = true))) (by omega)) (by omega), by omega⟩) | (refine Nat.le_trans (Nat.mul_le_mul_left _ (Nat.le_of_ble_eq_true (rfl : Nat.ble _ 1024 = true))) ?_; omega) | (unfold inI64; omega) | (constructor <;> omega) | (simp only [inI64, List.length_cons, List.length_append, List.length_nil, List.length_set] at *; omega) | decide | (unfold inI64; decide)); conv => whnf)
    | omega | decide | assumption)
  refine .ret _ ?_
  conv => whnf
  exact ⟨[], ⟨⟨_, rfl⟩, rfl⟩, trivial⟩
theorem s221_9 : FSpec Tryz.prog 258 [.d (.int .u64 9)] [] (fun y r => (∃ m : Int, y = .d (.int .i64 m)) ∧ r = []) := by
  refine spec_of hT (C := []) Tryz.func258 rfl Tryz.call258 rfl rfl rfl ?_
  conv => whnf
  repeat' (first
    | (refine br_intro (fun hb => ?_) (fun hb => ?_) <;> (try simp only [decide_eq_true_eq, decide_eq_false_iff_not, Bool.not_eq_true', Bool.not_eq_false', Bool.and_eq_true, Bool.or_eq_true, beq_iff_eq, not_and, Int.not_le, Int.not_lt, Int.toNat_natCast, beq_eq_false_iff_ne, ne_eq, eq_self, not_true_eq_false, not_false_eq_true] at hb) <;> (conv => whnf))
    | omega
    | (refine And.intro ?_ ?_; ((try dsimp only); first | omega | (refine ⟨by omega, by omega, Int.le_trans (Int.mul_le_mul_of_nonneg_right (Int.ofNat_le.2 (Nat.le_of_ble_eq_true (rfl : Nat.ble _ 1024 = true))) (by omega)) (by omega), by omega⟩) | (refine Nat.le_trans (Nat.mul_le_mul_left _ (Nat.le_of_ble_eq_true (rfl : Nat.ble _ 1024 = true))) ?_; omega) | (unfold inI64; omega) | (constructor <;> omega) | (simp only [inI64, List.length_cons, List.length_append, List.length_nil, List.length_set] at *; omega) | decide | (unfold inI64; decide)); conv => whnf)
    | omega | decide | assumption)
  refine .ret _ ?_
  conv => whnf
  exact ⟨[], ⟨⟨_, rfl⟩, rfl⟩, trivial⟩
theorem s221_10 : FSpec Tryz.prog 258 [.d (.int .u64 10)] [] (fun y r => (∃ m : Int, y = .d (.int .i64 m)) ∧ r = []) := by
  refine spec_of hT (C := []) Tryz.func258 rfl Tryz.call258 rfl rfl rfl ?_
  conv => whnf
  repeat' (first
    | (refine br_intro (fun hb => ?_) (fun hb => ?_) <;> (try simp only [decide_eq_true_eq, decide_eq_false_iff_not, Bool.not_eq_true', Bool.not_eq_false', Bool.and_eq_true, Bool.or_eq_true, beq_iff_eq, not_and, Int.not_le, Int.not_lt, Int.toNat_natCast, beq_eq_false_iff_ne, ne_eq, eq_self, not_true_eq_false, not_false_eq_true] at hb) <;> (conv => whnf))
    | omega
    | (refine And.intro ?_ ?_; ((try dsimp only); first | omega | (refine ⟨by omega, by omega, Int.le_trans (Int.mul_le_mul_of_nonneg_right (Int.ofNat_le.2 (Nat.le_of_ble_eq_true (rfl : Nat.ble _ 1024 = true))) (by omega)) (by omega), by omega⟩) | (refine Nat.le_trans (Nat.mul_le_mul_left _ (Nat.le_of_ble_eq_true (rfl : Nat.ble _ 1024 = true))) ?_; omega) | (unfold inI64; omega) | (constructor <;> omega) | (simp only [inI64, List.length_cons, List.length_append, List.length_nil, List.length_set] at *; omega) | decide | (unfold inI64; decide)); conv => whnf)
    | omega | decide | assumption)
  refine .ret _ ?_
  conv => whnf
  exact ⟨[], ⟨⟨_, rfl⟩, rfl⟩, trivial⟩
theorem s221_11 : FSpec Tryz.prog 258 [.d (.int .u64 11)] [] (fun y r => (∃ m : Int, y = .d (.int .i64 m)) ∧ r = []) := by
  refine spec_of hT (C := []) Tryz.func258 rfl Tryz.call258 rfl rfl rfl ?_
  conv => whnf
  repeat' (first
    | (refine br_intro (fun hb => ?_) (fun hb => ?_) <;> (try simp only [decide_eq_true_eq, decide_eq_false_iff_not, Bool.not_eq_true', Bool.not_eq_false', Bool.and_eq_true, Bool.or_eq_true, beq_iff_eq, not_and, Int.not_le, Int.not_lt, Int.toNat_natCast, beq_eq_false_iff_ne, ne_eq, eq_self, not_true_eq_false, not_false_eq_true] at hb) <;> (conv => whnf))
    | omega
    | (refine And.intro ?_ ?_; ((try dsimp only); first | omega | (refine ⟨by omega, by omega, Int.le_trans (Int.mul_le_mul_of_nonneg_right (Int.ofNat_le.2 (Nat.le_of_ble_eq_true (rfl : Nat.ble _ 1024 = true))) (by omega)) (by omega), by omega⟩) | (refine Nat.le_trans (Nat.mul_le_mul_left _ (Nat.le_of_ble_eq_true (rfl : Nat.ble _ 1024 = true))) ?_; omega) | (unfold inI64; omega) | (constructor <;> omega) | (simp only [inI64, List.length_cons, List.length_append, List.length_nil, List.length_set] at *; omega) | decide | (unfold inI64; decide)); conv => whnf)
    | omega | decide | assumption)
  refine .ret _ ?_
  conv => whnf
  exact ⟨[], ⟨⟨_, rfl⟩, rfl⟩, trivial⟩
theorem s221_12 : FSpec Tryz.prog 258 [.d (.int .u64 12)] [] (fun y r => (∃ m : Int, y = .d (.int .i64 m)) ∧ r = []) := by
  refine spec_of hT (C := []) Tryz.func258 rfl Tryz.call258 rfl rfl rfl ?_
  conv => whnf
  repeat' (first
    | (refine br_intro (fun hb => ?_) (fun hb => ?_) <;> (try simp only [decide_eq_true_eq, decide_eq_false_iff_not, Bool.not_eq_true', Bool.not_eq_false', Bool.and_eq_true, Bool.or_eq_true, beq_iff_eq, not_and, Int.not_le, Int.not_lt, Int.toNat_natCast, beq_eq_false_iff_ne, ne_eq, eq_self, not_true_eq_false, not_false_eq_true] at hb) <;> (conv => whnf))
    | omega
    | (refine And.intro ?_ ?_; ((try dsimp only); first | omega | (refine ⟨by omega, by omega, Int.le_trans (Int.mul_le_mul_of_nonneg_right (Int.ofNat_le.2 (Nat.le_of_ble_eq_true (rfl : Nat.ble _ 1024 = true))) (by omega)) (by omega), by omega⟩) | (refine Nat.le_trans (Nat.mul_le_mul_left _ (Nat.le_of_ble_eq_true (rfl : Nat.ble _ 1024 = true))) ?_; omega) | (unfold inI64; omega) | (constructor <;> omega) | (simp only [inI64, List.length_cons, List.length_append, List.length_nil, List.length_set] at *; omega) | decide | (unfold inI64; decide)); conv => whnf)
    | omega | decide | assumption)
  refine .ret _ ?_
  conv => whnf
  exact ⟨[], ⟨⟨_, rfl⟩, rfl⟩, trivial⟩
theorem s221 (n : Nat) (hn : n ≤ 12) : FSpec Tryz.prog 258 [.d (.int .u64 n)] [] (fun y r => (∃ m : Int, y = .d (.int .i64 m)) ∧ r = []) := by
  match n, hn with
  | 0, _ => exact s221_0
  | 1, _ => exact s221_1
  | 2, _ => exact s221_2
  | 3, _ => exact s221_3
  | 4, _ => exact s221_4
  | 5, _ => exact s221_5
  | 6, _ => exact s221_6
  | 7, _ => exact s221_7
  | 8, _ => exact s221_8
  | 9, _ => exact s221_9
  | 10, _ => exact s221_10
  | 11, _ => exact s221_11
  | 12, _ => exact s221_12
  | n + 13, h => omega
theorem wrap_u64 (n : Nat) (hn : n ≤ 12) : IntKind.u64.wrap n = n := by
  match n, hn with
  | 0, _ | 1, _ | 2, _ | 3, _ | 4, _ | 5, _ | 6, _ | 7, _ | 8, _ | 9, _ | 10, _ | 11, _ | 12, _ => decide
  | n + 13, h => omega
-- math/bits.Len of a small number
theorem sBitsLen (n : Nat) (hn : n ≤ 12) : FSpec Tryz.prog 201 [.d (.int .u64 (IntKind.u64.wrap n))] [] (fun y r => (∃ m : Int, y = .d (.int .i64 m)) ∧ r = []) := by
  rw [wrap_u64 n hn]
  refine spec_of hT (C := []) Tryz.func201 rfl Tryz.call201 rfl rfl rfl ?_
  conv => whnf
  repeat' (first
    | (refine br_intro (fun hb => ?_) (fun hb => ?_) <;> (try simp only [decide_eq_true_eq, decide_eq_false_iff_not, Bool.not_eq_true', Bool.not_eq_false', Bool.and_eq_true, Bool.or_eq_true, beq_iff_eq, not_and, Int.not_le, Int.not_lt, Int.toNat_natCast, beq_eq_false_iff_ne, ne_eq, eq_self, not_true_eq_false, not_false_eq_true] at hb) <;> (conv => whnf))
    | omega
    | (refine And.intro ?_ ?_; ((try dsimp only); first | omega | (refine ⟨by omega, by omega, Int.le_trans (Int.mul_le_mul_of_nonneg_right (Int.ofNat_le.2 (Nat.le_of_ble_eq_true (rfl : Nat.ble _ 1024 = true))) (by omega)) (by omega), by omega⟩) | (refine Nat.le_trans (Nat.mul_le_mul_left _ (Nat.le_of_ble_eq_true (rfl : Nat.ble _ 1024 = true))) ?_; omega) | (unfold inI64; omega) | (constructor <;> omega) | (simp only [inI64, List.length_cons, List.length_append, List.length_nil, List.length_set] at *; omega) | decide | (unfold inI64; decide)); conv => whnf)
    | omega | decide | assumption)
  refine CallX.of (s221 n hn) [] rfl ⟨SV.le_refl _, trivial⟩ trivial rfl rfl ?_
  rintro x rout ⟨⟨m, rfl⟩, rfl⟩
  refine ⟨rfl, ?_⟩
  conv => whnf
  refine .ret _ ?_
  conv => whnf
  exact ⟨[], ⟨⟨_, rfl⟩, rfl⟩, trivial⟩
-- insertion sort: the same elements
theorem s212 (g : FuncId) (cmp : Mrk → Mrk → Int) (l : List Mrk) (hl : l.length ≤ 2^40)
    (hcmp : ∀ p q, p ∈ l → q ∈ l → FSpec Tryz.prog g [.agg ((mkF p).map .d), .agg ((mkF q).map .d)] [] (fun y r => y = .d (.int .i64 (cmp p q)) ∧ r = [])) :
    FSpec Tryz.prog 320 [.buf 1000001, .d (.int .i64 0), .d (.int .i64 l.length), .fn g []] [(1000001, seqB 133 5 mkF mk0 l)]
      (fun y r => y = .tup [] ∧ ∃ c, sameL l c ∧ r = [(1000001, seqB 133 5 mkF mk0 c)]) := by
  refine spec_of hT (C := []) Tryz.func320 rfl Tryz.call320 rfl rfl rfl ?_
  conv => whnf
  repeat' (first
    | (refine br_intro (fun hb => ?_) (fun hb => ?_) <;> (try simp only [decide_eq_true_eq, decide_eq_false_iff_not, Bool.not_eq_true', Bool.not_eq_false', Bool.and_eq_true, Bool.or_eq_true, beq_iff_eq, not_and, Int.not_le, Int.not_lt, Int.toNat_natCast, beq_eq_false_iff_ne, ne_eq, eq_self, not_true_eq_false, not_false_eq_true] at hb) <;> (conv => whnf))
    | (refine RegX.rule (id := 4) hT rfl [] [(0, []), (1, [0]), (2, []), (3, []), (4, []), (5, [4]), (6, [4, 5]), (7, [4]), (8, [4]), (9, [4, 5, 6, 7, 8]), (10, [4, 5, 6, 7, 8, 9]), (11, [4, 5, 6, 7, 8, 9]), (12, [4, 5, 6, 7, 8]), (13, [4, 5, 6, 7, 8]), (14, []), (15, []), (16, [])] (by decide +kernel) ?_; conv => whnf)
    | (refine RegX.rule (id := 6) hT rfl [] [(0, []), (1, [0]), (2, [0, 1]), (3, [0, 1, 2]), (4, [0, 1, 2]), (5, [0, 1, 2, 3, 4]), (6, [0, 1, 2, 3, 4, 5]), (7, [0, 1, 2, 3, 4, 5]), (8, [0, 1, 2, 3, 4]), (9, [0, 1, 2, 3, 4]), (10, [0, 1, 2, 3, 4, 5, 6, 7, 8, 9]), (11, [0, 1, 2, 3, 4, 5, 6, 7, 8, 9, 10]), (12, [0, 1, 2, 3, 4, 5, 6, 7, 8, 9]), (13, [0, 1, 2, 3, 4, 5, 6, 7, 8, 9]), (14, [2, 3, 4]), (15, [2, 3, 4]), (16, []), (17, [])] (by decide +kernel) ?_; conv => whnf)
    | omega
    | (refine And.intro ?_ ?_; ((try dsimp only); first | omega | (refine ⟨by omega, by omega, Int.le_trans (Int.mul_le_mul_of_nonneg_right (Int.ofNat_le.2 (Nat.le_of_ble_eq_true (rfl : Nat.ble _ 1024 = true))) (by omega)) (by omega), by omega⟩) | (refine Nat.le_trans (Nat.mul_le_mul_left _ (Nat.le_of_ble_eq_true (rfl : Nat.ble _ 1024 = true))) ?_; omega) | (unfold inI64; omega) | (constructor <;> omega) | (simp only [inI64, List.length_cons, List.length_append, List.length_nil, List.length_set] at *; omega) | decide | (unfold inI64; decide)); conv => whnf)
    | omega | decide | assumption)
  refine LoopX.rule hT (C := []) (ι := Nat × List Mrk) (fun (i, c) => 1 ≤ i ∧ (i ≤ l.length ∨ i = 1) ∧ sameL l c)
    (fun (i, c) => mkSt [(0, .buf 1000001), (1, .d (.int .i64 0)), (2, .d (.int .i64 l.length)), (3, .fn g []), (8, .d (.int .i64 i))] [(1000001, seqB 133 5 mkF mk0 c)])
    (fun (i, _) => l.length - i) (1, l) ⟨by simp, by simp, rfl, fun x h => h⟩ (by refine Entails.mk' [(1000001, 1000001)] rfl rfl ?_ ?_ <;> repeat' (first | exact True.intro | exact SV.le_refl _ | exact Res.le_refl _ | exact SV.le_int (by omega) | exact SV.le_any _ | refine And.intro ?_ ?_)) ?_
  rintro ⟨i, c⟩ ⟨p1, p2, p3⟩
  have hc0 := p3.1
  conv => whnf
  repeat' (first
    | (refine br_intro (fun hb => ?_) (fun hb => ?_) <;> (try simp only [decide_eq_true_eq, decide_eq_false_iff_not, Bool.not_eq_true', Bool.not_eq_false', Bool.and_eq_true, Bool.or_eq_true, beq_iff_eq, not_and, Int.not_le, Int.not_lt, Int.toNat_natCast, beq_eq_false_iff_ne, ne_eq, eq_self, not_true_eq_false, not_false_eq_true] at hb) <;> (conv => whnf))
    | (refine RegX.rule (id := 4) hT rfl [] [(0, []), (1, [0]), (2, []), (3, []), (4, []), (5, [4]), (6, [4, 5]), (7, [4]), (8, [4]), (9, [4, 5, 6, 7, 8]), (10, [4, 5, 6, 7, 8, 9]), (11, [4, 5, 6, 7, 8, 9]), (12, [4, 5, 6, 7, 8]), (13, [4, 5, 6, 7, 8]), (14, []), (15, []), (16, [])] (by decide +kernel) ?_; conv => whnf)
    | (refine RegX.rule (id := 6) hT rfl [] [(0, []), (1, [0]), (2, [0, 1]), (3, [0, 1, 2]), (4, [0, 1, 2]), (5, [0, 1, 2, 3, 4]), (6, [0, 1, 2, 3, 4, 5]), (7, [0, 1, 2, 3, 4, 5]), (8, [0, 1, 2, 3, 4]), (9, [0, 1, 2, 3, 4]), (10, [0, 1, 2, 3, 4, 5, 6, 7, 8, 9]), (11, [0, 1, 2, 3, 4, 5, 6, 7, 8, 9, 10]), (12, [0, 1, 2, 3, 4, 5, 6, 7, 8, 9]), (13, [0, 1, 2, 3, 4, 5, 6, 7, 8, 9]), (14, [2, 3, 4]), (15, [2, 3, 4]), (16, []), (17, [])] (by decide +kernel) ?_; conv => whnf)
    | omega
    | (refine And.intro ?_ ?_; ((try dsimp only); first | omega | (refine ⟨by omega, by omega, Int.le_trans (Int.mul_le_mul_of_nonneg_right (Int.ofNat_le.2 (Nat.le_of_ble_eq_true (rfl : Nat.ble _ 1024 = true))) (by omega)) (by omega), by omega⟩) | (refine Nat.le_trans (Nat.mul_le_mul_left _ (Nat.le_of_ble_eq_true (rfl : Nat.ble _ 1024 = true))) ?_; omega) | (unfold inI64; omega) | (constructor <;> omega) | (simp only [inI64, List.length_cons, List.length_append, List.length_nil, List.length_set] at *; omega) | decide | (unfold inI64; decide)); conv => whnf)
    | omega | decide | assumption)
  · refine LoopX.rule hT (C := []) (ι := Nat × List Mrk) (fun (j, c) => j ≤ i ∧ sameL l c)
      (fun (j, c) => mkSt [(0, .buf 1000001), (1, .d (.int .i64 0)), (2, .d (.int .i64 l.length)), (3, .fn g []), (8, .d (.int .i64 i)), (9, .d (.int .i64 j))] [(1000001, seqB 133 5 mkF mk0 c)])
      (fun (j, _) => j) (i, c) ⟨Nat.le_refl _, p3⟩ (by refine Entails.mk' [(1000001, 1000001)] rfl rfl ?_ ?_ <;> repeat' (first | exact True.intro | exact SV.le_refl _ | exact Res.le_refl _ | exact SV.le_int (by omega) | exact SV.le_any _ | refine And.intro ?_ ?_)) ?_
    rintro ⟨j, b⟩ ⟨q1, q3⟩
    have hb0 := q3.1
    conv => whnf
    repeat' (first
      | (refine br_intro (fun hb => ?_) (fun hb => ?_) <;> (try simp only [decide_eq_true_eq, decide_eq_false_iff_not, Bool.not_eq_true', Bool.not_eq_false', Bool.and_eq_true, Bool.or_eq_true, beq_iff_eq, not_and, Int.not_le, Int.not_lt, Int.toNat_natCast, beq_eq_false_iff_ne, ne_eq, eq_self, not_true_eq_false, not_false_eq_true] at hb) <;> (conv => whnf))
      | (refine RegX.rule (id := 4) hT rfl [] [(0, []), (1, [0]), (2, []), (3, []), (4, []), (5, [4]), (6, [4, 5]), (7, [4]), (8, [4]), (9, [4, 5, 6, 7, 8]), (10, [4, 5, 6, 7, 8, 9]), (11, [4, 5, 6, 7, 8, 9]), (12, [4, 5, 6, 7, 8]), (13, [4, 5, 6, 7, 8]), (14, []), (15, []), (16, [])] (by decide +kernel) ?_; conv => whnf)
      | (refine RegX.rule (id := 6) hT rfl [] [(0, []), (1, [0]), (2, [0, 1]), (3, [0, 1, 2]), (4, [0, 1, 2]), (5, [0, 1, 2, 3, 4]), (6, [0, 1, 2, 3, 4, 5]), (7, [0, 1, 2, 3, 4, 5]), (8, [0, 1, 2, 3, 4]), (9, [0, 1, 2, 3, 4]), (10, [0, 1, 2, 3, 4, 5, 6, 7, 8, 9]), (11, [0, 1, 2, 3, 4, 5, 6, 7, 8, 9, 10]), (12, [0, 1, 2, 3, 4, 5, 6, 7, 8, 9]), (13, [0, 1, 2, 3, 4, 5, 6, 7, 8, 9]), (14, [2, 3, 4]), (15, [2, 3, 4]), (16, []), (17, [])] (by decide +kernel) ?_; conv => whnf)
      | omega
      | (refine And.intro ?_ ?_; ((try dsimp only); first | omega | (refine ⟨by omega, by omega, Int.le_trans (Int.mul_le_mul_of_nonneg_right (Int.ofNat_le.2 (Nat.le_of_ble_eq_true (rfl : Nat.ble _ 1024 = true))) (by omega)) (by omega), by omega⟩) | (refine Nat.le_trans (Nat.mul_le_mul_left _ (Nat.le_of_ble_eq_true (rfl : Nat.ble _ 1024 = true))) ?_; omega) | (unfold inI64; omega) | (constructor <;> omega) | (simp only [inI64, List.length_cons, List.length_append, List.length_nil, List.length_set] at *; omega) | decide | (unfold inI64; decide)); conv => whnf)
      | omega | decide | assumption)
    · refine CallX.of (hcmp (b.getD (j : Int).toNat mk0) (b.getD ((j : Int) - 1).toNat mk0) (q3.2 _ (getD_mem (by omega))) (q3.2 _ (getD_mem (by omega)))) [] rfl ⟨SV.le_refl _, SV.le_refl _, trivial⟩ trivial rfl rfl ?_
      rintro x rout ⟨rfl, rfl⟩
      refine ⟨rfl, ?_⟩
      conv => whnf
      repeat' (first
        | (refine br_intro (fun hb => ?_) (fun hb => ?_) <;> (try simp only [decide_eq_true_eq, decide_eq_false_iff_not, Bool.not_eq_true', Bool.not_eq_false', Bool.and_eq_true, Bool.or_eq_true, beq_iff_eq, not_and, Int.not_le, Int.not_lt, Int.toNat_natCast, beq_eq_false_iff_ne, ne_eq, eq_self, not_true_eq_false, not_false_eq_true] at hb) <;> (conv => whnf))
        | (refine RegX.rule (id := 4) hT rfl [] [(0, []), (1, [0]), (2, []), (3, []), (4, []), (5, [4]), (6, [4, 5]), (7, [4]), (8, [4]), (9, [4, 5, 6, 7, 8]), (10, [4, 5, 6, 7, 8, 9]), (11, [4, 5, 6, 7, 8, 9]), (12, [4, 5, 6, 7, 8]), (13, [4, 5, 6, 7, 8]), (14, []), (15, []), (16, [])] (by decide +kernel) ?_; conv => whnf)
        | (refine RegX.rule (id := 6) hT rfl [] [(0, []), (1, [0]), (2, [0, 1]), (3, [0, 1, 2]), (4, [0, 1, 2]), (5, [0, 1, 2, 3, 4]), (6, [0, 1, 2, 3, 4, 5]), (7, [0, 1, 2, 3, 4, 5]), (8, [0, 1, 2, 3, 4]), (9, [0, 1, 2, 3, 4]), (10, [0, 1, 2, 3, 4, 5, 6, 7, 8, 9]), (11, [0, 1, 2, 3, 4, 5, 6, 7, 8, 9, 10]), (12, [0, 1, 2, 3, 4, 5, 6, 7, 8, 9]), (13, [0, 1, 2, 3, 4, 5, 6, 7, 8, 9]), (14, [2, 3, 4]), (15, [2, 3, 4]), (16, []), (17, [])] (by decide +kernel) ?_; conv => whnf)
        | omega
        | (refine And.intro ?_ ?_; ((try dsimp only); first | omega | (refine ⟨by omega, by omega, Int.le_trans (Int.mul_le_mul_of_nonneg_right (Int.ofNat_le.2 (Nat.le_of_ble_eq_true (rfl : Nat.ble _ 1024 = true))) (by omega)) (by omega), by omega⟩) | (refine Nat.le_trans (Nat.mul_le_mul_left _ (Nat.le_of_ble_eq_true (rfl : Nat.ble _ 1024 = true))) ?_; omega) | (unfold inI64; omega) | (constructor <;> omega) | (simp only [inI64, List.length_cons, List.length_append, List.length_nil, List.length_set] at *; omega) | decide | (unfold inI64; decide)); conv => whnf)
        | omega | decide | assumption)
      · refine ⟨(j - 1, _), ⟨by omega, sameL_set (sameL_set q3 (q3.2 _ (getD_mem (i := ((j : Int) - 1).toNat) (x := mk0) (by omega)))) (q3.2 _ (getD_mem (i := (j : Int).toNat) (x := mk0) (by omega)))⟩, by show j - 1 < j; omega, Entails.mk' [(1000001, 1000001)] rfl rfl ⟨SV.le_refl _, SV.le_refl _, SV.le_refl _, SV.le_refl _, SV.le_refl _, SV.le_int (by omega), trivial⟩ ⟨Res.le_put2 (fun _ => rfl) (fun _ => rfl), trivial⟩⟩
      · exact ⟨(i + 1, b), ⟨by omega, by omega, q3⟩, by show l.length - (i + 1) < l.length - i; omega, (by refine Entails.mk' [(1000001, 1000001)] rfl rfl ?_ ?_ <;> repeat' (first | exact True.intro | exact SV.le_refl _ | exact Res.le_refl _ | exact SV.le_int (by omega) | exact SV.le_any _ | refine And.intro ?_ ?_))⟩
    · exact ⟨(i + 1, b), ⟨by omega, by omega, q3⟩, by show l.length - (i + 1) < l.length - i; omega, (by refine Entails.mk' [(1000001, 1000001)] rfl rfl ?_ ?_ <;> repeat' (first | exact True.intro | exact SV.le_refl _ | exact Res.le_refl _ | exact SV.le_int (by omega) | exact SV.le_any _ | refine And.intro ?_ ?_))⟩
  · refine .ret _ ?_
    conv => whnf
    exact ⟨_, ⟨rfl, c, p3, rfl⟩, Res.le_refl _, trivial⟩
-- slices.SortFunc of at most twelve: the same elements
theorem s188 (g : FuncId) (cmp : Mrk → Mrk → Int) (l : List Mrk) (hl : l.length ≤ 12) (lim : Int)
    (hcmp : ∀ p q, p ∈ l → q ∈ l → FSpec Tryz.prog g [.agg ((mkF p).map .d), .agg ((mkF q).map .d)] [] (fun y r => y = .d (.int .i64 (cmp p q)) ∧ r = [])) :
    FSpec Tryz.prog 280 [.buf 1000001, .d (.int .i64 0), .d (.int .i64 l.length), .d (.int .i64 lim), .fn g []] [(1000001, seqB 133 5 mkF mk0 l)]
      (fun y r => y = .tup [] ∧ ∃ c, sameL l c ∧ r = [(1000001, seqB 133 5 mkF mk0 c)]) := by
  refine spec_of hT (C := []) Tryz.func280 rfl Tryz.call280 rfl rfl rfl ?_
  conv => whnf
  refine LoopX.unroll hT (C := []) (fun _ _ h => h) (fun _ h => h) ?_
  conv => whnf
  repeat' (first
    | (refine br_intro (fun hb => ?_) (fun hb => ?_) <;> (try simp only [decide_eq_true_eq, decide_eq_false_iff_not, Bool.not_eq_true', Bool.not_eq_false', Bool.and_eq_true, Bool.or_eq_true, beq_iff_eq, not_and, Int.not_le, Int.not_lt, Int.toNat_natCast, beq_eq_false_iff_ne, ne_eq, eq_self, not_true_eq_false, not_false_eq_true] at hb) <;> (conv => whnf))
    | (refine RegX.rule (id := 17) hT rfl [] [(0, []), (1, []), (2, []), (3, []), (4, [3]), (5, [3, 4]), (6, [3, 4]), (7, [3]), (8, [3]), (9, [3, 4, 5, 6, 7, 8]), (10, [3, 4, 5, 6, 7, 8, 9]), (11, [3, 4, 5, 6, 7, 8]), (12, [3, 4, 5, 6, 7, 8]), (13, []), (14, []), (15, []), (16, [])] (by decide +kernel) ?_; conv => whnf)
    | omega
    | (refine And.intro ?_ ?_; ((try dsimp only); first | omega | (refine ⟨by omega, by omega, Int.le_trans (Int.mul_le_mul_of_nonneg_right (Int.ofNat_le.2 (Nat.le_of_ble_eq_true (rfl : Nat.ble _ 1024 = true))) (by omega)) (by omega), by omega⟩) | (refine Nat.le_trans (Nat.mul_le_mul_left _ (Nat.le_of_ble_eq_true (rfl : Nat.ble _ 1024 = true))) ?_; omega) | (unfold inI64; omega) | (constructor <;> omega) | (simp only [inI64, List.length_cons, List.length_append, List.length_nil, List.length_set] at *; omega) | decide | (unfold inI64; decide)); conv => whnf)
    | omega | decide | assumption)
  refine CallX.of (s212 g cmp l (by omega) hcmp) [(1000001, 1000001)] rfl ⟨SV.le_refl _, SV.le_refl _, SV.le_refl _, SV.le_refl _, trivial⟩ ⟨Res.le_refl _, trivial⟩ rfl rfl ?_
  rintro x rout ⟨rfl, c, hc, rfl⟩
  refine ⟨rfl, ?_⟩
  conv => whnf
  refine .ret _ ?_
  conv => whnf
  exact ⟨_, ⟨rfl, c, hc, rfl⟩, Res.le_refl _, trivial⟩
theorem s156 (g : FuncId) (cmp : Mrk → Mrk → Int) (l : List Mrk) (hl : l.length ≤ 12)
    (hcmp : ∀ p q, p ∈ l → q ∈ l → FSpec Tryz.prog g [.agg ((mkF p).map .d), .agg ((mkF q).map .d)] [] (fun y r => y = .d (.int .i64 (cmp p q)) ∧ r = [])) :
    FSpec Tryz.prog 228 [.buf 1000001, .fn g []] [(1000001, seqB 133 5 mkF mk0 l)]
      (fun y r => y = .tup [] ∧ ∃ c, sameL l c ∧ r = [(1000001, seqB 133 5 mkF mk0 c)]) := by
  refine spec_of hT (C := []) Tryz.func228 rfl Tryz.call228 rfl rfl rfl ?_
  conv => whnf
  repeat' (first
    | (refine br_intro (fun hb => ?_) (fun hb => ?_) <;> (try simp only [decide_eq_true_eq, decide_eq_false_iff_not, Bool.not_eq_true', Bool.not_eq_false', Bool.and_eq_true, Bool.or_eq_true, beq_iff_eq, not_and, Int.not_le, Int.not_lt, Int.toNat_natCast, beq_eq_false_iff_ne, ne_eq, eq_self, not_true_eq_false, not_false_eq_true] at hb) <;> (conv => whnf))
    | omega
    | (refine And.intro ?_ ?_; ((try dsimp only); first | omega | (refine ⟨by omega, by omega, Int.le_trans (Int.mul_le_mul_of_nonneg_right (Int.ofNat_le.2 (Nat.le_of_ble_eq_true (rfl : Nat.ble _ 1024 = true))) (by omega)) (by omega), by omega⟩) | (refine Nat.le_trans (Nat.mul_le_mul_left _ (Nat.le_of_ble_eq_true (rfl : Nat.ble _ 1024 = true))) ?_; omega) | (unfold inI64; omega) | (constructor <;> omega) | (simp only [inI64, List.length_cons, List.length_append, List.length_nil, List.length_set] at *; omega) | decide | (unfold inI64; decide)); conv => whnf)
    | omega | decide | assumption)
  refine CallX.of (sBitsLen l.length hl) [] rfl ⟨SV.le_refl _, trivial⟩ trivial rfl rfl ?_
  rintro x rout ⟨⟨lim, rfl⟩, rfl⟩
  refine ⟨rfl, ?_⟩
  conv => whnf
  repeat' (first
    | (refine br_intro (fun hb => ?_) (fun hb => ?_) <;> (try simp only [decide_eq_true_eq, decide_eq_false_iff_not, Bool.not_eq_true', Bool.not_eq_false', Bool.and_eq_true, Bool.or_eq_true, beq_iff_eq, not_and, Int.not_le, Int.not_lt, Int.toNat_natCast, beq_eq_false_iff_ne, ne_eq, eq_self, not_true_eq_false, not_false_eq_true] at hb) <;> (conv => whnf))
    | omega
    | (refine And.intro ?_ ?_; ((try dsimp only); first | omega | (refine ⟨by omega, by omega, Int.le_trans (Int.mul_le_mul_of_nonneg_right (Int.ofNat_le.2 (Nat.le_of_ble_eq_true (rfl : Nat.ble _ 1024 = true))) (by omega)) (by omega), by omega⟩) | (refine Nat.le_trans (Nat.mul_le_mul_left _ (Nat.le_of_ble_eq_true (rfl : Nat.ble _ 1024 = true))) ?_; omega) | (unfold inI64; omega) | (constructor <;> omega) | (simp only [inI64, List.length_cons, List.length_append, List.length_nil, List.length_set] at *; omega) | decide | (unfold inI64; decide)); conv => whnf)
    | omega | decide | assumption)
  refine CallX.of (s188 g cmp l hl lim hcmp) [(1000001, 1000001)] rfl ⟨SV.le_refl _, SV.le_refl _, SV.le_refl _, SV.le_refl _, SV.le_refl _, trivial⟩ ⟨Res.le_refl _, trivial⟩ rfl rfl ?_
  rintro x rout ⟨rfl, c, hc, rfl⟩
  refine ⟨rfl, ?_⟩
  conv => whnf
  refine .ret _ ?_
  conv => whnf
  exact ⟨_, ⟨rfl, c, hc, rfl⟩, Res.le_refl _, trivial⟩
-- slices.Compact: some of the elements
theorem s158 (l : List Mrk) (hl : l.length ≤ 2^20) :
    FSpec Tryz.prog 229 [.buf 1000001] [(1000001, seqB 133 5 mkF mk0 l)]
      (fun y r => ∃ c, subL l c ∧ ∃ d, (d = 1000001 ∨ d = 59) ∧ y = .buf d ∧ r = [(d, seqB 133 5 mkF mk0 c)]) := by
  refine spec_of hT (C := []) Tryz.func229 rfl Tryz.call229 rfl rfl rfl ?_
  conv => whnf
  repeat' (first
    | (refine br_intro (fun hb => ?_) (fun hb => ?_) <;> (try simp only [decide_eq_true_eq, decide_eq_false_iff_not, Bool.not_eq_true', Bool.not_eq_false', Bool.and_eq_true, Bool.or_eq_true, beq_iff_eq, not_and, Int.not_le, Int.not_lt, Int.toNat_natCast, beq_eq_false_iff_ne, ne_eq, eq_self, not_true_eq_false, not_false_eq_true] at hb) <;> (conv => whnf))
    | (refine RegX.rule (id := 6) hT rfl [] [(0, []), (1, [0]), (2, []), (3, []), (4, [0, 1, 2, 3]), (5, [0, 1, 2, 3, 4]), (6, [0, 1, 2, 3, 4]), (7, [0, 1, 2, 3]), (8, [0, 1, 2, 3]), (9, [])] (by decide +kernel) ?_; conv => whnf)
    | (refine RegX.rule (id := 11) hT rfl [] [(0, []), (1, [0]), (2, []), (3, []), (4, [0, 1, 2, 3]), (5, [0, 1, 2, 3, 4]), (6, [0, 1, 2, 3, 4]), (7, [0, 1, 2, 3]), (8, [0, 1, 2, 3]), (9, [])] (by decide +kernel) ?_; conv => whnf)
    | omega
    | (refine And.intro ?_ ?_; ((try dsimp only); first | omega | (refine ⟨by omega, by omega, Int.le_trans (Int.mul_le_mul_of_nonneg_right (Int.ofNat_le.2 (Nat.le_of_ble_eq_true (rfl : Nat.ble _ 1024 = true))) (by omega)) (by omega), by omega⟩) | (refine Nat.le_trans (Nat.mul_le_mul_left _ (Nat.le_of_ble_eq_true (rfl : Nat.ble _ 1024 = true))) ?_; omega) | (unfold inI64; omega) | (constructor <;> omega) | (simp only [inI64, List.length_cons, List.length_append, List.length_nil, List.length_set] at *; omega) | decide | (unfold inI64; decide)); conv => whnf)
    | omega | decide | assumption)
  · refine .ret _ ?_
    conv => whnf
    exact ⟨_, ⟨l, ⟨Nat.le_refl _, fun x h => h⟩, 1000001, .inl rfl, rfl, rfl⟩, Res.le_refl _, trivial⟩
  refine LoopX.rule hT (C := []) (ι := Nat) (fun k => 1 ≤ k ∧ k ≤ l.length) (fun k => mkSt [(0, .buf 1000001), (3, .d (.int .i64 k))] [(1000001, seqB 133 5 mkF mk0 l)]) (fun k => l.length - k) 1 ⟨by omega, by omega⟩ (by refine Entails.mk' [(1000001, 1000001)] rfl rfl ?_ ?_ <;> repeat' (first | exact True.intro | exact SV.le_refl _ | exact Res.le_refl _ | exact SV.le_int (by omega) | exact SV.le_any _ | refine And.intro ?_ ?_)) ?_
  rintro k ⟨p1, p2⟩
  conv => whnf
  repeat' (first
    | (refine SliceX.first (lo := none) rfl ?_; conv => whnf)
    | (refine SliceX.look (lo := some _) rfl ?_; conv => whnf)
    | (refine br_intro (fun hb => ?_) (fun hb => ?_) <;> (try simp only [decide_eq_true_eq, decide_eq_false_iff_not, Bool.not_eq_true', Bool.not_eq_false', Bool.and_eq_true, Bool.or_eq_true, beq_iff_eq, not_and, Int.not_le, Int.not_lt, Int.toNat_natCast, beq_eq_false_iff_ne, ne_eq, eq_self, not_true_eq_false, not_false_eq_true] at hb) <;> (conv => whnf))
    | (refine RegX.rule (id := 6) hT rfl [] [(0, []), (1, [0]), (2, []), (3, []), (4, [0, 1, 2, 3]), (5, [0, 1, 2, 3, 4]), (6, [0, 1, 2, 3, 4]), (7, [0, 1, 2, 3]), (8, [0, 1, 2, 3]), (9, [])] (by decide +kernel) ?_; conv => whnf)
    | (refine RegX.rule (id := 11) hT rfl [] [(0, []), (1, [0]), (2, []), (3, []), (4, [0, 1, 2, 3]), (5, [0, 1, 2, 3, 4]), (6, [0, 1, 2, 3, 4]), (7, [0, 1, 2, 3]), (8, [0, 1, 2, 3]), (9, [])] (by decide +kernel) ?_; conv => whnf)
    | omega
    | (refine And.intro ?_ ?_; ((try dsimp only); first | omega | (refine ⟨by omega, by omega, Int.le_trans (Int.mul_le_mul_of_nonneg_right (Int.ofNat_le.2 (Nat.le_of_ble_eq_true (rfl : Nat.ble _ 1024 = true))) (by omega)) (by omega), by omega⟩) | (refine Nat.le_trans (Nat.mul_le_mul_left _ (Nat.le_of_ble_eq_true (rfl : Nat.ble _ 1024 = true))) ?_; omega) | (unfold inI64; omega) | (constructor <;> omega) | (simp only [inI64, List.length_cons, List.length_append, List.length_nil, List.length_set] at *; omega) | decide | (unfold inI64; decide)); conv => whnf)
    | omega | decide | assumption)
  · have hsub : SV.le (SV.sub 1000001 5 (k : Int).toNat (((l.length : Nat) : Int) - (k : Int)).toNat) (SV.sub 1000001 5 k (l.length - k)) := by
      rw [show (k : Int).toNat = k by omega, show (((l.length : Nat) : Int) - (k : Int)).toNat = l.length - k by omega]; exact SV.le_refl _
    refine LoopX.rule hT (C := []) (ι := Nat × Nat × List Mrk) (fun (q, m, c) => k ≤ q ∧ q < k + m ∧ 1 ≤ m ∧ k + m ≤ l.length ∧ sameL l c)
      (fun (q, m, c) => mkSt [(0, .buf 1000001), (3, .d (.int .i64 q)), (4, .sub 1000001 5 k (l.length - k)), (5, .d (.int .i64 m))] [(1000001, seqB 133 5 mkF mk0 c)])
      (fun (_, m, _) => l.length - m) (k, 1, l) ⟨by omega, by omega, by omega, by omega, rfl, fun x h => h⟩ (by refine Entails.mk' [(1000001, 1000001)] rfl rfl ?_ ?_ <;> repeat' (first | exact True.intro | exact SV.le_refl _ | exact Res.le_refl _ | (exact hsub) | exact SV.le_int (by omega) | exact SV.le_any _ | refine And.intro ?_ ?_)) ?_
    rintro ⟨q, m, c⟩ ⟨r1, r2, r3, r4, r5⟩
    have hc0 := r5.1
    conv => whnf
    repeat' (first
      | (refine SliceX.first (lo := none) rfl ?_; conv => whnf)
      | (refine SliceX.look (lo := some _) rfl ?_; conv => whnf)
      | (refine br_intro (fun hb => ?_) (fun hb => ?_) <;> (try simp only [decide_eq_true_eq, decide_eq_false_iff_not, Bool.not_eq_true', Bool.not_eq_false', Bool.and_eq_true, Bool.or_eq_true, beq_iff_eq, not_and, Int.not_le, Int.not_lt, Int.toNat_natCast, beq_eq_false_iff_ne, ne_eq, eq_self, not_true_eq_false, not_false_eq_true] at hb) <;> (conv => whnf))
      | (refine RegX.rule (id := 6) hT rfl [] [(0, []), (1, [0]), (2, []), (3, []), (4, [0, 1, 2, 3]), (5, [0, 1, 2, 3, 4]), (6, [0, 1, 2, 3, 4]), (7, [0, 1, 2, 3]), (8, [0, 1, 2, 3]), (9, [])] (by decide +kernel) ?_; conv => whnf)
      | (refine RegX.rule (id := 11) hT rfl [] [(0, []), (1, [0]), (2, []), (3, []), (4, [0, 1, 2, 3]), (5, [0, 1, 2, 3, 4]), (6, [0, 1, 2, 3, 4]), (7, [0, 1, 2, 3]), (8, [0, 1, 2, 3]), (9, [])] (by decide +kernel) ?_; conv => whnf)
      | omega
      | (refine And.intro ?_ ?_; ((try dsimp only); first | omega | (refine ⟨by omega, by omega, Int.le_trans (Int.mul_le_mul_of_nonneg_right (Int.ofNat_le.2 (Nat.le_of_ble_eq_true (rfl : Nat.ble _ 1024 = true))) (by omega)) (by omega), by omega⟩) | (refine Nat.le_trans (Nat.mul_le_mul_left _ (Nat.le_of_ble_eq_true (rfl : Nat.ble _ 1024 = true))) ?_; omega) | (unfold inI64; omega) | (constructor <;> omega) | (simp only [inI64, List.length_cons, List.length_append, List.length_nil, List.length_set] at *; omega) | decide | (unfold inI64; decide)); conv => whnf)
      | omega | decide | assumption)
    · have em : k + (m : Int).toNat < l.length := by omega
      refine ⟨(q + 1, m + 1, c.set (q : Int).toNat (c.getD (k + (m : Int).toNat) mk0)), ⟨by omega, by omega, by omega, by omega, sameL_set r5 (r5.2 _ (getD_mem (by omega)))⟩, by show l.length - (m + 1) < l.length - m; omega, Entails.mk' [(1000001, 1000001)] rfl rfl ⟨SV.le_refl _, SV.le_int (by omega), SV.le_refl _, SV.le_int (by omega), trivial⟩ ⟨Res.le_putF (fun _ _ => rfl), trivial⟩⟩
    · exact ⟨(q, m + 1, c), ⟨by omega, by omega, by omega, by omega, r5⟩, by show l.length - (m + 1) < l.length - m; omega, (by refine Entails.mk' [(1000001, 1000001)] rfl rfl ?_ ?_ <;> repeat' (first | exact True.intro | exact SV.le_refl _ | exact Res.le_refl _ | exact SV.le_int (by omega) | exact SV.le_any _ | refine And.intro ?_ ?_))⟩
    · refine .ret _ ?_
      conv => whnf
      refine ⟨_, ⟨c.take q, ⟨by rw [List.length_take]; omega, fun x hx => r5.2 x (List.mem_of_mem_take hx)⟩, 59, .inr rfl, rfl, rfl⟩, Res.le_buf (by rw [List.length_take]; omega) (fun i hi => ?_), trivial⟩
      have hi : i < q := by
        have : i < (q : Int).toNat := hi
        omega
      have h1 : Nat.ble (q : Int).toNat i = false := by
        rw [← Bool.not_eq_true, Nat.ble_eq]; omega
      show (bif Nat.ble (q : Int).toNat i && _ then _ else rowF mkF mk0 c i) = _
      rw [h1]
      simp only [Bool.false_and, cond_false, rowF]
      rw [List.getD_eq_getElem?_getD, List.getD_eq_getElem?_getD, List.getElem?_take_of_lt hi]
  · exact ⟨k + 1, ⟨by omega, by omega⟩, by omega, (by refine Entails.mk' [(1000001, 1000001)] rfl rfl ?_ ?_ <;> repeat' (first | exact True.intro | exact SV.le_refl _ | exact Res.le_refl _ | exact SV.le_int (by omega) | exact SV.le_any _ | refine And.intro ?_ ?_))⟩
  · refine .ret _ ?_
    conv => whnf
    exact ⟨_, ⟨l, ⟨Nat.le_refl _, fun x h => h⟩, 1000001, .inl rfl, rfl, rfl⟩, Res.le_refl _, trivial⟩
end Go.Proofs.YtnkdlkgannnfhaaGreatDoor
set_option maxRecDepth 20000
namespace Go.Proofs.YtnkdlkgannnfhaaGreatDoor
open Go Go.Eng
end Go.Proofs.YtnkdlkgannnfhaaGreatDoor
set_option maxRecDepth 20000
namespace Go.Proofs.YtnkdlkgannnfhaaGreatDoor
open Go Go.Eng
end Go.Proofs.YtnkdlkgannnfhaaGreatDoor
set_option maxRecDepth 20000
namespace Go.Proofs.YtnkdlkgannnfhaaGreatDoor
open Go Go.Eng
end Go.Proofs.YtnkdlkgannnfhaaGreatDoor
set_option maxRecDepth 20000
namespace Go.Proofs.YtnkdlkgannnfhaaGreatDoor
open Go Go.Eng
end Go.Proofs.YtnkdlkgannnfhaaGreatDoor
set_option maxRecDepth 20000
namespace Go.Proofs.YtnkdlkgannnfhaaGreatDoor
open Go Go.Eng
theorem SV.le_take {α : Type} {f : α → List DV} {d : α} {l : List α} {k m : Nat} {get : Nat → List DV} (hg : ∀ i, i < l.length → get i = rowF f d l i) (hm : m ≤ l.length) :
    SV.le (.d (.ro k m fun i => get (0 + i))) (.d (seqD k f d (l.take m))) :=
  SV.le_ro (by rw [List.length_take]; omega) (fun i hi => by
    rw [Nat.zero_add, hg i (by omega)]
    simp only [rowF]
    rw [List.getD_eq_getElem?_getD, List.getD_eq_getElem?_getD, List.getElem?_take_of_lt hi])
theorem allK_take {α : Type} {K : α → Prop} {l : List α} {k m : Nat} (h : allK K k l) : allK K k (l.take m) :=
  ⟨by rw [List.length_take]; have := h.1; omega, fun x hx => h.2 x (List.mem_of_mem_take hx)⟩
def pnG (x : Pnl) : Prop := x.key.length ≤ 8
def pnLit (u1 u2 u3 : Int) : List Pnl := [⟨[100, 111, 111, 114], 1000, 800, u1⟩, ⟨[104, 111, 111, 100], u2, 900, u3⟩, ⟨[114, 111, 111, 102], 300, 300, 4000⟩]
theorem pnLit_ok (u1 u2 u3 : Int) : allK pnG 3 (pnLit u1 u2 u3) := ⟨Nat.le_refl _, by intro x hx; simp [pnLit] at hx; rcases hx with rfl | rfl | rfl <;> simp [pnG]⟩
theorem pnLit_rows (u1 u2 u3 : Int) : ∀ i, i < (pnLit u1 u2 u3).length → [[DV.str [100, 111, 111, 114], .int .i64 1000, .int .i64 800, .int .i64 u1], [.str [104, 111, 111, 100], .int .i64 u2, .int .i64 900, .int .i64 u3], [.str [114, 111, 111, 102], .int .i64 300, .int .i64 300, .int .i64 4000]].getD i [] = rowF pnF pn0 (pnLit u1 u2 u3) i := rows_lit rfl
theorem pick3 {u : Int} (h : u ∈ ([1, 2, 3, 3] : List Int)) : 0 ≤ u ∧ u ≤ 3 := by
  simp only [List.mem_cons, List.not_mem_nil, or_false] at h; omega
-- Panels
theorem s95 (n : Nat) (L : Nat → Int) (hL : Rok n L) (a : Int) (h0 : 0 ≤ a) (ha : a ≤ 2^38) :
    FSpec Tryz.prog 62 [.ptr 1000000 0] [(1000000, strm n L a)] (fun y r => (∃ l, allK pnG 3 l ∧ y = .d (pnls l)) ∧ Moved n L a 20 r) := by
  refine spec_of hT (C := [17]) Tryz.func62 rfl Tryz.call62 rfl rfl rfl ?_
  conv => whnf
  repeat' (first
    | (refine CallX.of (s33 n L hL _ ?_ ?_ [0, 3000, 9000] ?_ ?_) [(1000000, 1000000)] rfl ⟨SV.le_refl _, SV.le_lit rfl rfl, trivial⟩ ⟨Res.le_refl _, trivial⟩ rfl rfl ?_; rotate_right; rintro x rout ⟨⟨u1, hu1, rfl⟩, ⟨c, c1, c2, rfl⟩⟩; refine ⟨rfl, ?_⟩; conv => whnf)
    | (refine CallX.of (s33 n L hL _ ?_ ?_ [50, 1200] ?_ ?_) [(1000000, 1000000)] rfl ⟨SV.le_refl _, SV.le_lit rfl rfl, trivial⟩ ⟨Res.le_refl _, trivial⟩ rfl rfl ?_; rotate_right; rintro x rout ⟨⟨u2, hu2, rfl⟩, ⟨c, c1, c2, rfl⟩⟩; refine ⟨rfl, ?_⟩; conv => whnf)
    | (refine CallX.of (s33 n L hL _ ?_ ?_ [5000, 1000000] ?_ ?_) [(1000000, 1000000)] rfl ⟨SV.le_refl _, SV.le_lit rfl rfl, trivial⟩ ⟨Res.le_refl _, trivial⟩ rfl rfl ?_; rotate_right; rintro x rout ⟨⟨u3, hu3, rfl⟩, ⟨c, c1, c2, rfl⟩⟩; refine ⟨rfl, ?_⟩; conv => whnf)
    | (refine CallX.of (s84 n L hL _ ?_ ?_ _ ?_) [(1000000, 1000000)] rfl ⟨SV.le_refl _, SV.le_refl _, trivial⟩ ⟨Res.le_refl _, trivial⟩ rfl rfl ?_; rotate_right; rintro x rout ⟨⟨f, rfl⟩, ⟨c, c1, c2, rfl⟩⟩; refine ⟨rfl, ?_⟩; conv => whnf)
    | (refine CallX.of (s86 n L hL _ ?_ ?_ _ ?_) [(1000000, 1000000)] rfl ⟨SV.le_refl _, SV.le_refl _, trivial⟩ ⟨Res.le_refl _, trivial⟩ rfl rfl ?_; rotate_right; rintro x rout ⟨⟨j, hj1, hj2, hj3, rfl⟩, ⟨c, c1, c2, rfl⟩⟩; refine ⟨rfl, ?_⟩; conv => whnf)
    | (refine CallX.of (s15 n L hL _ ?_ ?_ [_, [], [100, 111, 111, 114]] (by simp) (by simp)) [(1000000, 1000000)] rfl ⟨SV.le_refl _, SV.le_lit rfl rfl, trivial⟩ ⟨Res.le_refl _, trivial⟩ rfl rfl ?_; rotate_right; rintro x rout ⟨⟨u4, hu4, rfl⟩, ⟨c, c1, c2, rfl⟩⟩; refine ⟨rfl, ?_⟩; conv => whnf)
    | (refine CallX.of (s104 n L hL _ ?_ ?_ 1 5000 ?_ ?_ ?_) [(1000000, 1000000)] rfl ⟨SV.le_refl _, SV.le_refl _, SV.le_refl _, trivial⟩ ⟨Res.le_refl _, trivial⟩ rfl rfl ?_; rotate_right; rintro x rout ⟨⟨u5, hk1, hk2, rfl⟩, ⟨c, c1, c2, rfl⟩⟩; refine ⟨rfl, ?_⟩; conv => whnf)
    | (refine CallX.of (s104 n L hL _ ?_ ?_ 0 1000000 ?_ ?_ ?_) [(1000000, 1000000)] rfl ⟨SV.le_refl _, SV.le_refl _, SV.le_refl _, trivial⟩ ⟨Res.le_refl _, trivial⟩ rfl rfl ?_; rotate_right; rintro x rout ⟨⟨u6, hk3, hk4, rfl⟩, ⟨c, c1, c2, rfl⟩⟩; refine ⟨rfl, ?_⟩; conv => whnf)
    | (refine CallX.of (s33 n L hL _ ?_ ?_ [1, 2, 3, 3] ?_ ?_) [(1000000, 1000000)] rfl ⟨SV.le_refl _, SV.le_lit rfl rfl, trivial⟩ ⟨Res.le_refl _, trivial⟩ rfl rfl ?_; rotate_right; rintro x rout ⟨⟨u7, hu7, rfl⟩, ⟨c, c1, c2, rfl⟩⟩; have hw7 := pick3 hu7; refine ⟨rfl, ?_⟩; conv => whnf)
    | (refine SliceX.freeze 225 4 _ _ rfl ?_; conv => whnf)
    | (refine br_intro (fun hb => ?_) (fun hb => ?_) <;> (try simp only [decide_eq_true_eq, decide_eq_false_iff_not, Bool.not_eq_true', Bool.not_eq_false', Bool.and_eq_true, Bool.or_eq_true, beq_iff_eq, not_and, Int.not_le, Int.not_lt, Int.toNat_natCast, beq_eq_false_iff_ne, ne_eq, eq_self, not_true_eq_false, not_false_eq_true] at hb) <;> (conv => whnf))
    | omega
    | (refine And.intro ?_ ?_; ((try dsimp only); first | omega | (refine ⟨by omega, by omega, Int.le_trans (Int.mul_le_mul_of_nonneg_right (Int.ofNat_le.2 (Nat.le_of_ble_eq_true (rfl : Nat.ble _ 1024 = true))) (by omega)) (by omega), by omega⟩) | (refine Nat.le_trans (Nat.mul_le_mul_left _ (Nat.le_of_ble_eq_true (rfl : Nat.ble _ 1024 = true))) ?_; omega) | (unfold inI64; omega) | (constructor <;> omega) | (simp only [inI64, List.length_cons, List.length_append, List.length_nil, List.length_set] at *; omega) | decide | (unfold inI64; decide)); conv => whnf)
    | omega | decide | assumption)
  · have hj : j = 0 ∨ j = 1 ∨ j = 2 := by omega
    rcases hj with rfl | rfl | rfl
    all_goals
      conv => whnf
      repeat' (first
        | (refine CallX.of (s33 n L hL _ ?_ ?_ [0, 3000, 9000] ?_ ?_) [(1000000, 1000000)] rfl ⟨SV.le_refl _, SV.le_lit rfl rfl, trivial⟩ ⟨Res.le_refl _, trivial⟩ rfl rfl ?_; rotate_right; rintro x rout ⟨⟨u1, hu1, rfl⟩, ⟨c, c1, c2, rfl⟩⟩; refine ⟨rfl, ?_⟩; conv => whnf)
        | (refine CallX.of (s33 n L hL _ ?_ ?_ [50, 1200] ?_ ?_) [(1000000, 1000000)] rfl ⟨SV.le_refl _, SV.le_lit rfl rfl, trivial⟩ ⟨Res.le_refl _, trivial⟩ rfl rfl ?_; rotate_right; rintro x rout ⟨⟨u2, hu2, rfl⟩, ⟨c, c1, c2, rfl⟩⟩; refine ⟨rfl, ?_⟩; conv => whnf)
        | (refine CallX.of (s33 n L hL _ ?_ ?_ [5000, 1000000] ?_ ?_) [(1000000, 1000000)] rfl ⟨SV.le_refl _, SV.le_lit rfl rfl, trivial⟩ ⟨Res.le_refl _, trivial⟩ rfl rfl ?_; rotate_right; rintro x rout ⟨⟨u3, hu3, rfl⟩, ⟨c, c1, c2, rfl⟩⟩; refine ⟨rfl, ?_⟩; conv => whnf)
        | (refine CallX.of (s84 n L hL _ ?_ ?_ _ ?_) [(1000000, 1000000)] rfl ⟨SV.le_refl _, SV.le_refl _, trivial⟩ ⟨Res.le_refl _, trivial⟩ rfl rfl ?_; rotate_right; rintro x rout ⟨⟨f, rfl⟩, ⟨c, c1, c2, rfl⟩⟩; refine ⟨rfl, ?_⟩; conv => whnf)
        | (refine CallX.of (s86 n L hL _ ?_ ?_ _ ?_) [(1000000, 1000000)] rfl ⟨SV.le_refl _, SV.le_refl _, trivial⟩ ⟨Res.le_refl _, trivial⟩ rfl rfl ?_; rotate_right; rintro x rout ⟨⟨j, hj1, hj2, hj3, rfl⟩, ⟨c, c1, c2, rfl⟩⟩; refine ⟨rfl, ?_⟩; conv => whnf)
        | (refine CallX.of (s15 n L hL _ ?_ ?_ [_, [], [100, 111, 111, 114]] (by simp) (by simp)) [(1000000, 1000000)] rfl ⟨SV.le_refl _, SV.le_lit rfl rfl, trivial⟩ ⟨Res.le_refl _, trivial⟩ rfl rfl ?_; rotate_right; rintro x rout ⟨⟨u4, hu4, rfl⟩, ⟨c, c1, c2, rfl⟩⟩; refine ⟨rfl, ?_⟩; conv => whnf)
        | (refine CallX.of (s104 n L hL _ ?_ ?_ 1 5000 ?_ ?_ ?_) [(1000000, 1000000)] rfl ⟨SV.le_refl _, SV.le_refl _, SV.le_refl _, trivial⟩ ⟨Res.le_refl _, trivial⟩ rfl rfl ?_; rotate_right; rintro x rout ⟨⟨u5, hk1, hk2, rfl⟩, ⟨c, c1, c2, rfl⟩⟩; refine ⟨rfl, ?_⟩; conv => whnf)
        | (refine CallX.of (s104 n L hL _ ?_ ?_ 0 1000000 ?_ ?_ ?_) [(1000000, 1000000)] rfl ⟨SV.le_refl _, SV.le_refl _, SV.le_refl _, trivial⟩ ⟨Res.le_refl _, trivial⟩ rfl rfl ?_; rotate_right; rintro x rout ⟨⟨u6, hk3, hk4, rfl⟩, ⟨c, c1, c2, rfl⟩⟩; refine ⟨rfl, ?_⟩; conv => whnf)
        | (refine CallX.of (s33 n L hL _ ?_ ?_ [1, 2, 3, 3] ?_ ?_) [(1000000, 1000000)] rfl ⟨SV.le_refl _, SV.le_lit rfl rfl, trivial⟩ ⟨Res.le_refl _, trivial⟩ rfl rfl ?_; rotate_right; rintro x rout ⟨⟨u7, hu7, rfl⟩, ⟨c, c1, c2, rfl⟩⟩; have hw7 := pick3 hu7; refine ⟨rfl, ?_⟩; conv => whnf)
        | (refine SliceX.freeze 225 4 _ _ rfl ?_; conv => whnf)
        | (refine br_intro (fun hb => ?_) (fun hb => ?_) <;> (try simp only [decide_eq_true_eq, decide_eq_false_iff_not, Bool.not_eq_true', Bool.not_eq_false', Bool.and_eq_true, Bool.or_eq_true, beq_iff_eq, not_and, Int.not_le, Int.not_lt, Int.toNat_natCast, beq_eq_false_iff_ne, ne_eq, eq_self, not_true_eq_false, not_false_eq_true] at hb) <;> (conv => whnf))
        | omega
        | (refine And.intro ?_ ?_; ((try dsimp only); first | omega | (refine ⟨by omega, by omega, Int.le_trans (Int.mul_le_mul_of_nonneg_right (Int.ofNat_le.2 (Nat.le_of_ble_eq_true (rfl : Nat.ble _ 1024 = true))) (by omega)) (by omega), by omega⟩) | (refine Nat.le_trans (Nat.mul_le_mul_left _ (Nat.le_of_ble_eq_true (rfl : Nat.ble _ 1024 = true))) ?_; omega) | (unfold inI64; omega) | (constructor <;> omega) | (simp only [inI64, List.length_cons, List.length_append, List.length_nil, List.length_set] at *; omega) | decide | (unfold inI64; decide)); conv => whnf)
        | omega | decide | assumption)
      refine .weak _ ?_
      (conv => whnf)
      have hu : u4.length ≤ 8 := mem_len hu4 rfl
      refine ⟨_, [(1000000, strm n L _)], SV.le_take (f := pnF) (d := pn0) (rows_updG (rows_updG (rows_updG (pnLit_rows u1 u2 u3) (fun y : Pnl => (⟨u4, y.w, y.h, y.pr⟩ : Pnl)) (fun _ => rfl)) (fun y : Pnl => (⟨y.key, u5, y.h, y.pr⟩ : Pnl)) (fun _ => rfl)) (fun y : Pnl => (⟨y.key, y.w, y.h, u6⟩ : Pnl)) (fun _ => rfl)) (by simp [pnLit]; omega), ⟨⟨_, ?_, rfl⟩, _, by omega, by omega, rfl⟩, Res.le_refl _, trivial⟩
      exact allK_take (allK_upd (g := fun y : Pnl => (⟨y.key, y.w, y.h, u6⟩ : Pnl)) (allK_upd (g := fun y : Pnl => (⟨y.key, u5, y.h, y.pr⟩ : Pnl)) (allK_upd (g := fun y : Pnl => (⟨u4, y.w, y.h, y.pr⟩ : Pnl)) (pnLit_ok u1 u2 u3) (fun y hy => hu)) (fun y hy => hy)) (fun y hy => hy))
  · refine .weak _ ?_
    (conv => whnf)
    exact ⟨_, [(1000000, strm n L _)], SV.le_take (l := pnLit u1 u2 u3) (pnLit_rows u1 u2 u3) (by show (u7 - 0).toNat ≤ 3; omega), ⟨⟨_, allK_take (pnLit_ok u1 u2 u3), rfl⟩, _, by omega, by omega, rfl⟩, Res.le_refl _, trivial⟩
-- Rules
theorem s97 (n : Nat) (L : Nat → Int) (hL : Rok n L) (a : Int) (h0 : 0 ≤ a) (ha : a ≤ 2^38) :
    FSpec Tryz.prog 63 [.ptr 1000000 0] [(1000000, strm n L a)] (fun y r => (∃ z : Rul, y = .agg ((ruF z).map .d)) ∧ Moved n L a 20 r) := by
  refine spec_of hT (C := []) Tryz.func63 rfl Tryz.call63 rfl rfl rfl ?_
  conv => whnf
  repeat' (first
    | (refine CallX.of (s33 n L hL _ ?_ ?_ [0, 5, 13, 20, 20, 50] ?_ ?_) [(1000000, 1000000)] rfl ⟨SV.le_refl _, SV.le_lit rfl rfl, trivial⟩ ⟨Res.le_refl _, trivial⟩ rfl rfl ?_; rotate_right; rintro x rout ⟨⟨u1, hu1, rfl⟩, ⟨c, c1, c2, rfl⟩⟩; refine ⟨rfl, ?_⟩; conv => whnf)
    | (refine CallX.of (s33 n L hL _ ?_ ?_ [0, 1, 2, 2] ?_ ?_) [(1000000, 1000000)] rfl ⟨SV.le_refl _, SV.le_lit rfl rfl, trivial⟩ ⟨Res.le_refl _, trivial⟩ rfl rfl ?_; rotate_right; rintro x rout ⟨⟨u2, hu2, rfl⟩, ⟨c, c1, c2, rfl⟩⟩; refine ⟨rfl, ?_⟩; conv => whnf)
    | (refine CallX.of (s33 n L hL _ ?_ ?_ [0, 10, 30, 50, 100] ?_ ?_) [(1000000, 1000000)] rfl ⟨SV.le_refl _, SV.le_lit rfl rfl, trivial⟩ ⟨Res.le_refl _, trivial⟩ rfl rfl ?_; rotate_right; rintro x rout ⟨⟨u3, hu3, rfl⟩, ⟨c, c1, c2, rfl⟩⟩; refine ⟨rfl, ?_⟩; conv => whnf)
    | (refine CallX.of (s33 n L hL _ ?_ ?_ [0, 333, 500, 1000] ?_ ?_) [(1000000, 1000000)] rfl ⟨SV.le_refl _, SV.le_lit rfl rfl, trivial⟩ ⟨Res.le_refl _, trivial⟩ rfl rfl ?_; rotate_right; rintro x rout ⟨⟨u4, hu4, rfl⟩, ⟨c, c1, c2, rfl⟩⟩; refine ⟨rfl, ?_⟩; conv => whnf)
    | (refine CallX.of (s84 n L hL _ ?_ ?_ _ ?_) [(1000000, 1000000)] rfl ⟨SV.le_refl _, SV.le_refl _, trivial⟩ ⟨Res.le_refl _, trivial⟩ rfl rfl ?_; rotate_right; rintro x rout ⟨⟨f, rfl⟩, ⟨c, c1, c2, rfl⟩⟩; refine ⟨rfl, ?_⟩; conv => whnf)
    | (refine CallX.of (s104 n L hL _ ?_ ?_ _ _ ?_ ?_ ?_) [(1000000, 1000000)] rfl ⟨SV.le_refl _, SV.le_refl _, SV.le_refl _, trivial⟩ ⟨Res.le_refl _, trivial⟩ rfl rfl ?_; rotate_right; rintro x rout ⟨⟨u5, hk1, hk2, rfl⟩, ⟨c, c1, c2, rfl⟩⟩; refine ⟨rfl, ?_⟩; conv => whnf)
    | (refine br_intro (fun hb => ?_) (fun hb => ?_) <;> (try simp only [decide_eq_true_eq, decide_eq_false_iff_not, Bool.not_eq_true', Bool.not_eq_false', Bool.and_eq_true, Bool.or_eq_true, beq_iff_eq, not_and, Int.not_le, Int.not_lt, Int.toNat_natCast, beq_eq_false_iff_ne, ne_eq, eq_self, not_true_eq_false, not_false_eq_true] at hb) <;> (conv => whnf))
    | omega
    | (refine And.intro ?_ ?_; ((try dsimp only); first | omega | (refine ⟨by omega, by omega, Int.le_trans (Int.mul_le_mul_of_nonneg_right (Int.ofNat_le.2 (Nat.le_of_ble_eq_true (rfl : Nat.ble _ 1024 = true))) (by omega)) (by omega), by omega⟩) | (refine Nat.le_trans (Nat.mul_le_mul_left _ (Nat.le_of_ble_eq_true (rfl : Nat.ble _ 1024 = true))) ?_; omega) | (unfold inI64; omega) | (constructor <;> omega) | (simp only [inI64, List.length_cons, List.length_append, List.length_nil, List.length_set] at *; omega) | decide | (unfold inI64; decide)); conv => whnf)
    | omega | decide | assumption)
  all_goals
    refine .ret _ ?_
    conv => whnf
    exact ⟨[(1000000, strm n L _)], ⟨⟨⟨_, _, _, _⟩, rfl⟩, _, by omega, by omega, rfl⟩, Res.le_refl _, trivial⟩
def mkB (c : Int) (m : Mrk) : Prop := m.pan.length ≤ 8 ∧ (-c ≤ m.x ∧ m.x ≤ c) ∧ (-c ≤ m.y ∧ m.y ≤ c) ∧ (-c ≤ m.size ∧ m.size ≤ c)
abbrev mkG (m : Mrk) : Prop := mkB 1099511627776 m
theorem pk {l : List Int} {x : Int} (h : x ∈ l) (hl : (l.all fun y => decide (-1099511627776 ≤ y) && decide (y ≤ 1099511627776)) = true) : -1099511627776 ≤ x ∧ x ≤ 1099511627776 := by
  have := List.all_eq_true.1 hl x h
  simpa using this
-- Marks
theorem s96 (n : Nat) (L : Nat → Int) (hL : Rok n L) (a : Int) (h0 : 0 ≤ a) (ha : a ≤ 2^38) (m : Int) (hm1 : 0 ≤ m) (hm2 : m ≤ 12) :
    FSpec Tryz.prog 140 [.ptr 1000000 0, .d (.int .i64 m)] [(1000000, strm n L a)] (fun y r => (∃ l, allK mkG m.toNat l ∧ y = .d (mrks l)) ∧ Moved n L a 90 r) := by
  refine spec_of hT (C := []) Tryz.func140 rfl Tryz.call140 rfl rfl rfl ?_
  conv => whnf
  refine LoopX.rule hT (C := []) (ι := Int × List Mrk × Nat) (fun (b, l, k) => (a ≤ b ∧ b ≤ a + 6 * k ∧ (k : Int) ≤ m) ∧ allK mkG k l)
    (fun (b, l, k) => mkSt [(0, .ptr 1000000 0), (5, .buf 5), (7, .d (.int .i64 m)), (8, .d (.int .i64 k))] [(1000000, strm n L b), (5, seqB 133 5 mkF mk0 l)])
    (fun (_, _, k) => 12 - k) (a, [], 0) ⟨⟨by simp, by simp, by simpa using hm1⟩, ⟨by simp, by simp⟩⟩ ?_ ?_
  · exact (Entails.nil 5 5 133 5 (rowF mkF mk0 []) rfl rfl (by decide)).trans (by refine Entails.mk' [(1000000, 1000000), (5, 5)] rfl rfl ?_ ?_ <;> repeat' (first | exact True.intro | exact SV.le_refl _ | exact Res.le_refl _ | exact SV.le_int (by omega) | exact SV.le_any _ | refine And.intro ?_ ?_))
  rintro ⟨b, l, k⟩ ⟨⟨p1, p2, p3⟩, q1⟩
  have hl1 := q1.1
  conv => whnf
  repeat' (first
    | (refine CallX.of (s15 n L hL _ ?_ ?_ [[100, 111, 111, 114], [100, 111, 111, 114], [100, 111, 111, 114], [104, 111, 111, 100]] ?_ ?_) [(1000000, 1000000)] rfl ⟨SV.le_refl _, SV.le_lit rfl rfl, trivial⟩ ⟨Res.le_refl _, trivial⟩ rfl rfl ?_; rotate_right; rintro x rout ⟨⟨u1, hu1, rfl⟩, ⟨c, c1, c2, rfl⟩⟩; refine ⟨rfl, ?_⟩; conv => whnf)
    | (refine CallX.of (s33 n L hL _ ?_ ?_ [1, 1, 1, 2, 3] ?_ ?_) [(1000000, 1000000)] rfl ⟨SV.le_refl _, SV.le_lit rfl rfl, trivial⟩ ⟨Res.le_refl _, trivial⟩ rfl rfl ?_; rotate_right; rintro x rout ⟨⟨u2, hu2, rfl⟩, ⟨c, c1, c2, rfl⟩⟩; refine ⟨rfl, ?_⟩; conv => whnf)
    | (refine CallX.of (s33 n L hL _ ?_ ?_ [0, 10, 20, 30, 40, 40, 100, 140] ?_ ?_) [(1000000, 1000000)] rfl ⟨SV.le_refl _, SV.le_lit rfl rfl, trivial⟩ ⟨Res.le_refl _, trivial⟩ rfl rfl ?_; rotate_right; rintro x rout ⟨⟨u3, hu3, rfl⟩, ⟨c, c1, c2, rfl⟩⟩; refine ⟨rfl, ?_⟩; conv => whnf)
    | (refine CallX.of (s33 n L hL _ ?_ ?_ [0, 0, 10, 20] ?_ ?_) [(1000000, 1000000)] rfl ⟨SV.le_refl _, SV.le_lit rfl rfl, trivial⟩ ⟨Res.le_refl _, trivial⟩ rfl rfl ?_; rotate_right; rintro x rout ⟨⟨u4, hu4, rfl⟩, ⟨c, c1, c2, rfl⟩⟩; refine ⟨rfl, ?_⟩; conv => whnf)
    | (refine CallX.of (s33 n L hL _ ?_ ?_ [1, 5, 8, 10, 12, 50] ?_ ?_) [(1000000, 1000000)] rfl ⟨SV.le_refl _, SV.le_lit rfl rfl, trivial⟩ ⟨Res.le_refl _, trivial⟩ rfl rfl ?_; rotate_right; rintro x rout ⟨⟨u5, hu5, rfl⟩, ⟨c, c1, c2, rfl⟩⟩; refine ⟨rfl, ?_⟩; conv => whnf)
    | (refine br_intro (fun hb => ?_) (fun hb => ?_) <;> (try simp only [decide_eq_true_eq, decide_eq_false_iff_not, Bool.not_eq_true', Bool.not_eq_false', Bool.and_eq_true, Bool.or_eq_true, beq_iff_eq, not_and, Int.not_le, Int.not_lt, Int.toNat_natCast, beq_eq_false_iff_ne, ne_eq, eq_self, not_true_eq_false, not_false_eq_true] at hb) <;> (conv => whnf))
    | omega
    | (refine And.intro ?_ ?_; ((try dsimp only); first | omega | (refine ⟨by omega, by omega, Int.le_trans (Int.mul_le_mul_of_nonneg_right (Int.ofNat_le.2 (Nat.le_of_ble_eq_true (rfl : Nat.ble _ 1024 = true))) (by omega)) (by omega), by omega⟩) | (refine Nat.le_trans (Nat.mul_le_mul_left _ (Nat.le_of_ble_eq_true (rfl : Nat.ble _ 1024 = true))) ?_; omega) | (unfold inI64; omega) | (constructor <;> omega) | (simp only [inI64, List.length_cons, List.length_append, List.length_nil, List.length_set] at *; omega) | decide | (unfold inI64; decide)); conv => whnf)
    | omega | decide | assumption)
  · refine ⟨(_, _, k + 1), ?_, ?_, Entails.mk' [(1000000, 1000000), (5, 28)] rfl rfl ⟨SV.le_refl _, SV.le_refl _, SV.le_refl _, SV.le_refl _, trivial⟩ ⟨Res.le_refl _, Res.le_snocF (x := ⟨_, _, _, _, _⟩) rfl, trivial⟩⟩
    · exact ⟨⟨by omega, by omega, by omega⟩, allK_snoc q1 (Nat.le_refl _) ⟨mem_len hu1 rfl, pk hu3 rfl, pk hu4 rfl, pk hu5 rfl⟩⟩
    · show 12 - (k + 1) < 12 - k; omega
  refine CallX.of (s156 198 mrkCmp l (by omega) (fun p q _ _ => s157 p q)) [(1000001, 5)] rfl ⟨SV.le_refl _, SV.le_refl _, trivial⟩ ⟨Res.le_refl _, trivial⟩ rfl rfl ?_
  rintro x rout ⟨rfl, c, hc, rfl⟩
  refine ⟨rfl, ?_⟩
  conv => whnf
  repeat' (first
    | (refine br_intro (fun hb => ?_) (fun hb => ?_) <;> (try simp only [decide_eq_true_eq, decide_eq_false_iff_not, Bool.not_eq_true', Bool.not_eq_false', Bool.and_eq_true, Bool.or_eq_true, beq_iff_eq, not_and, Int.not_le, Int.not_lt, Int.toNat_natCast, beq_eq_false_iff_ne, ne_eq, eq_self, not_true_eq_false, not_false_eq_true] at hb) <;> (conv => whnf))
    | omega
    | (refine And.intro ?_ ?_; ((try dsimp only); first | omega | (refine ⟨by omega, by omega, Int.le_trans (Int.mul_le_mul_of_nonneg_right (Int.ofNat_le.2 (Nat.le_of_ble_eq_true (rfl : Nat.ble _ 1024 = true))) (by omega)) (by omega), by omega⟩) | (refine Nat.le_trans (Nat.mul_le_mul_left _ (Nat.le_of_ble_eq_true (rfl : Nat.ble _ 1024 = true))) ?_; omega) | (unfold inI64; omega) | (constructor <;> omega) | (simp only [inI64, List.length_cons, List.length_append, List.length_nil, List.length_set] at *; omega) | decide | (unfold inI64; decide)); conv => whnf)
    | omega | decide | assumption)
  refine CallX.of (s158 c (by have := hc.1; omega)) [(1000001, 5), (59, 100)] rfl ⟨SV.le_refl _, trivial⟩ ⟨Res.le_refl _, trivial⟩ rfl rfl ?_
  rintro x rout ⟨e, he, d, hd, rfl, rfl⟩
  have hsh : allK mkG m.toNat e := ⟨by have := hc.1; have := he.1; omega, fun p hp => q1.2 p (hc.2 p (he.2 p hp))⟩
  have hl2 := hsh.1
  rcases hd with rfl | rfl
  · refine ⟨rfl, ?_⟩
    conv => whnf
    repeat' (first
      | (refine CallX.of (s84 n L hL _ ?_ ?_ _ ?_) [(1000000, 1000000)] rfl ⟨SV.le_refl _, SV.le_refl _, trivial⟩ ⟨Res.le_refl _, trivial⟩ rfl rfl ?_; rotate_right; rintro x rout ⟨⟨f, rfl⟩, ⟨c, c1, c2, rfl⟩⟩; refine ⟨rfl, ?_⟩; conv => whnf)
      | (refine CallX.of (s86 n L hL _ ?_ ?_ _ ?_) [(1000000, 1000000)] rfl ⟨SV.le_refl _, SV.le_refl _, trivial⟩ ⟨Res.le_refl _, trivial⟩ rfl rfl ?_; rotate_right; rintro x rout ⟨⟨j, hj1, hj2, hj3, rfl⟩, ⟨c, c1, c2, rfl⟩⟩; refine ⟨rfl, ?_⟩; conv => whnf)
      | (refine CallX.of (s15 n L hL _ ?_ ?_ [[], [110, 111, 110, 101], [65]] ?_ ?_) [(1000000, 1000000)] rfl ⟨SV.le_refl _, SV.le_lit rfl rfl, trivial⟩ ⟨Res.le_refl _, trivial⟩ rfl rfl ?_; rotate_right; rintro x rout ⟨⟨u4, hu4, rfl⟩, ⟨c, c1, c2, rfl⟩⟩; have hw4 := mem_len hu4 rfl; refine ⟨rfl, ?_⟩; conv => whnf)
      | (refine CallX.of (s104 n L hL _ ?_ ?_ 1 4 ?_ ?_ ?_) [(1000000, 1000000)] rfl ⟨SV.le_refl _, SV.le_refl _, SV.le_refl _, trivial⟩ ⟨Res.le_refl _, trivial⟩ rfl rfl ?_; rotate_right; rintro x rout ⟨⟨u5, hk1, hk2, rfl⟩, ⟨c, c1, c2, rfl⟩⟩; refine ⟨rfl, ?_⟩; conv => whnf)
      | (refine CallX.of (s104 n L hL _ ?_ ?_ 0 5000 ?_ ?_ ?_) [(1000000, 1000000)] rfl ⟨SV.le_refl _, SV.le_refl _, SV.le_refl _, trivial⟩ ⟨Res.le_refl _, trivial⟩ rfl rfl ?_; rotate_right; rintro x rout ⟨⟨u6, hk3, hk4, rfl⟩, ⟨c, c1, c2, rfl⟩⟩; refine ⟨rfl, ?_⟩; conv => whnf)
      | (refine CallX.of (s33 n L hL _ ?_ ?_ [0, 799, 800, 900] ?_ ?_) [(1000000, 1000000)] rfl ⟨SV.le_refl _, SV.le_lit rfl rfl, trivial⟩ ⟨Res.le_refl _, trivial⟩ rfl rfl ?_; rotate_right; rintro x rout ⟨⟨u7, hu7, rfl⟩, ⟨c, c1, c2, rfl⟩⟩; refine ⟨rfl, ?_⟩; conv => whnf)
      | (refine CallX.of (s104 n L hL _ ?_ ?_ 1 2000 ?_ ?_ ?_) [(1000000, 1000000)] rfl ⟨SV.le_refl _, SV.le_refl _, SV.le_refl _, trivial⟩ ⟨Res.le_refl _, trivial⟩ rfl rfl ?_; rotate_right; rintro x rout ⟨⟨u8, hk5, hk6, rfl⟩, ⟨c, c1, c2, rfl⟩⟩; refine ⟨rfl, ?_⟩; conv => whnf)
      | (refine br_intro (fun hb => ?_) (fun hb => ?_) <;> (try simp only [decide_eq_true_eq, decide_eq_false_iff_not, Bool.not_eq_true', Bool.not_eq_false', Bool.and_eq_true, Bool.or_eq_true, beq_iff_eq, not_and, Int.not_le, Int.not_lt, Int.toNat_natCast, beq_eq_false_iff_ne, ne_eq, eq_self, not_true_eq_false, not_false_eq_true] at hb) <;> (conv => whnf))
      | omega
      | (refine And.intro ?_ ?_; ((try dsimp only); first | omega | (refine ⟨by omega, by omega, Int.le_trans (Int.mul_le_mul_of_nonneg_right (Int.ofNat_le.2 (Nat.le_of_ble_eq_true (rfl : Nat.ble _ 1024 = true))) (by omega)) (by omega), by omega⟩) | (refine Nat.le_trans (Nat.mul_le_mul_left _ (Nat.le_of_ble_eq_true (rfl : Nat.ble _ 1024 = true))) ?_; omega) | (unfold inI64; omega) | (constructor <;> omega) | (simp only [inI64, List.length_cons, List.length_append, List.length_nil, List.length_set] at *; omega) | decide | (unfold inI64; decide)); conv => whnf)
      | omega | decide | assumption)
    · first
        | refine .freeze _ 5 133 5 _ _ rfl (.weak _ ?_)
        | refine .freeze _ 100 133 5 _ _ rfl (.weak _ ?_)
      (conv => whnf)
      refine ⟨_, [(1000000, strm n L _)], SV.le_upd (fun p : Mrk => (⟨u4, p.kind, p.x, p.y, p.size⟩ : Mrk)) (fun _ => rfl), ⟨⟨_, ?_, rfl⟩, _, by omega, by omega, rfl⟩, Res.le_refl _, trivial⟩
      exact allK_upd (g := fun p : Mrk => (⟨u4, p.kind, p.x, p.y, p.size⟩ : Mrk)) hsh (fun y hy => ⟨hw4, hy.2⟩)
    · first
        | refine .freeze _ 5 133 5 _ _ rfl (.weak _ ?_)
        | refine .freeze _ 100 133 5 _ _ rfl (.weak _ ?_)
      (conv => whnf)
      refine ⟨_, [(1000000, strm n L _)], SV.le_upd (fun p : Mrk => (⟨p.pan, u5, p.x, p.y, p.size⟩ : Mrk)) (fun _ => rfl), ⟨⟨_, ?_, rfl⟩, _, by omega, by omega, rfl⟩, Res.le_refl _, trivial⟩
      exact allK_upd (g := fun p : Mrk => (⟨p.pan, u5, p.x, p.y, p.size⟩ : Mrk)) hsh (fun y hy => hy)
    · first
        | refine .freeze _ 5 133 5 _ _ rfl (.weak _ ?_)
        | refine .freeze _ 100 133 5 _ _ rfl (.weak _ ?_)
      (conv => whnf)
      refine ⟨_, [(1000000, strm n L _)], SV.le_upd2 (f := mkF) (d := mk0) (l := e) (fun p : Mrk => (⟨p.pan, p.kind, u6, p.y, p.size⟩ : Mrk)) (fun p : Mrk => (⟨p.pan, p.kind, p.x, u7, p.size⟩ : Mrk)) (fun _ => rfl) (fun _ => rfl), ⟨⟨_, ?_, rfl⟩, _, by omega, by omega, rfl⟩, Res.le_refl _, trivial⟩
      exact allK_upd (g := fun p : Mrk => (⟨p.pan, p.kind, p.x, u7, p.size⟩ : Mrk)) (allK_upd (g := fun p : Mrk => (⟨p.pan, p.kind, u6, p.y, p.size⟩ : Mrk)) hsh (fun y hy => ⟨hy.1, (show -1099511627776 ≤ u6 ∧ u6 ≤ 1099511627776 from by omega), hy.2.2⟩)) (fun y hy => ⟨hy.1, hy.2.1, pk hu7 rfl, hy.2.2.2⟩)
    · first
        | refine .freeze _ 5 133 5 _ _ rfl (.weak _ ?_)
        | refine .freeze _ 100 133 5 _ _ rfl (.weak _ ?_)
      (conv => whnf)
      refine ⟨_, [(1000000, strm n L _)], SV.le_upd (fun p : Mrk => (⟨p.pan, p.kind, p.x, p.y, u8⟩ : Mrk)) (fun _ => rfl), ⟨⟨_, ?_, rfl⟩, _, by omega, by omega, rfl⟩, Res.le_refl _, trivial⟩
      exact allK_upd (g := fun p : Mrk => (⟨p.pan, p.kind, p.x, p.y, u8⟩ : Mrk)) hsh (fun y hy => ⟨hy.1, hy.2.1, hy.2.2.1, (show -1099511627776 ≤ u8 ∧ u8 ≤ 1099511627776 from by omega)⟩)
    all_goals
      first
        | refine .freeze _ 5 133 5 _ _ rfl (.weak _ ?_)
        | refine .freeze _ 100 133 5 _ _ rfl (.weak _ ?_)
      (conv => whnf)
      exact ⟨_, [(1000000, strm n L _)], SV.le_refl _, ⟨⟨e, hsh, rfl⟩, _, by omega, by omega, rfl⟩, Res.le_refl _, trivial⟩
  · refine ⟨rfl, ?_⟩
    conv => whnf
    repeat' (first
      | (refine CallX.of (s84 n L hL _ ?_ ?_ _ ?_) [(1000000, 1000000)] rfl ⟨SV.le_refl _, SV.le_refl _, trivial⟩ ⟨Res.le_refl _, trivial⟩ rfl rfl ?_; rotate_right; rintro x rout ⟨⟨f, rfl⟩, ⟨c, c1, c2, rfl⟩⟩; refine ⟨rfl, ?_⟩; conv => whnf)
      | (refine CallX.of (s86 n L hL _ ?_ ?_ _ ?_) [(1000000, 1000000)] rfl ⟨SV.le_refl _, SV.le_refl _, trivial⟩ ⟨Res.le_refl _, trivial⟩ rfl rfl ?_; rotate_right; rintro x rout ⟨⟨j, hj1, hj2, hj3, rfl⟩, ⟨c, c1, c2, rfl⟩⟩; refine ⟨rfl, ?_⟩; conv => whnf)
      | (refine CallX.of (s15 n L hL _ ?_ ?_ [[], [110, 111, 110, 101], [65]] ?_ ?_) [(1000000, 1000000)] rfl ⟨SV.le_refl _, SV.le_lit rfl rfl, trivial⟩ ⟨Res.le_refl _, trivial⟩ rfl rfl ?_; rotate_right; rintro x rout ⟨⟨u4, hu4, rfl⟩, ⟨c, c1, c2, rfl⟩⟩; have hw4 := mem_len hu4 rfl; refine ⟨rfl, ?_⟩; conv => whnf)
      | (refine CallX.of (s104 n L hL _ ?_ ?_ 1 4 ?_ ?_ ?_) [(1000000, 1000000)] rfl ⟨SV.le_refl _, SV.le_refl _, SV.le_refl _, trivial⟩ ⟨Res.le_refl _, trivial⟩ rfl rfl ?_; rotate_right; rintro x rout ⟨⟨u5, hk1, hk2, rfl⟩, ⟨c, c1, c2, rfl⟩⟩; refine ⟨rfl, ?_⟩; conv => whnf)
      | (refine CallX.of (s104 n L hL _ ?_ ?_ 0 5000 ?_ ?_ ?_) [(1000000, 1000000)] rfl ⟨SV.le_refl _, SV.le_refl _, SV.le_refl _, trivial⟩ ⟨Res.le_refl _, trivial⟩ rfl rfl ?_; rotate_right; rintro x rout ⟨⟨u6, hk3, hk4, rfl⟩, ⟨c, c1, c2, rfl⟩⟩; refine ⟨rfl, ?_⟩; conv => whnf)
      | (refine CallX.of (s33 n L hL _ ?_ ?_ [0, 799, 800, 900] ?_ ?_) [(1000000, 1000000)] rfl ⟨SV.le_refl _, SV.le_lit rfl rfl, trivial⟩ ⟨Res.le_refl _, trivial⟩ rfl rfl ?_; rotate_right; rintro x rout ⟨⟨u7, hu7, rfl⟩, ⟨c, c1, c2, rfl⟩⟩; refine ⟨rfl, ?_⟩; conv => whnf)
      | (refine CallX.of (s104 n L hL _ ?_ ?_ 1 2000 ?_ ?_ ?_) [(1000000, 1000000)] rfl ⟨SV.le_refl _, SV.le_refl _, SV.le_refl _, trivial⟩ ⟨Res.le_refl _, trivial⟩ rfl rfl ?_; rotate_right; rintro x rout ⟨⟨u8, hk5, hk6, rfl⟩, ⟨c, c1, c2, rfl⟩⟩; refine ⟨rfl, ?_⟩; conv => whnf)
      | (refine br_intro (fun hb => ?_) (fun hb => ?_) <;> (try simp only [decide_eq_true_eq, decide_eq_false_iff_not, Bool.not_eq_true', Bool.not_eq_false', Bool.and_eq_true, Bool.or_eq_true, beq_iff_eq, not_and, Int.not_le, Int.not_lt, Int.toNat_natCast, beq_eq_false_iff_ne, ne_eq, eq_self, not_true_eq_false, not_false_eq_true] at hb) <;> (conv => whnf))
      | omega
      | (refine And.intro ?_ ?_; ((try dsimp only); first | omega | (refine ⟨by omega, by omega, Int.le_trans (Int.mul_le_mul_of_nonneg_right (Int.ofNat_le.2 (Nat.le_of_ble_eq_true (rfl : Nat.ble _ 1024 = true))) (by omega)) (by omega), by omega⟩) | (refine Nat.le_trans (Nat.mul_le_mul_left _ (Nat.le_of_ble_eq_true (rfl : Nat.ble _ 1024 = true))) ?_; omega) | (unfold inI64; omega) | (constructor <;> omega) | (simp only [inI64, List.length_cons, List.length_append, List.length_nil, List.length_set] at *; omega) | decide | (unfold inI64; decide)); conv => whnf)
      | omega | decide | assumption)
    · first
        | refine .freeze _ 5 133 5 _ _ rfl (.weak _ ?_)
        | refine .freeze _ 100 133 5 _ _ rfl (.weak _ ?_)
      (conv => whnf)
      refine ⟨_, [(1000000, strm n L _)], SV.le_upd (fun p : Mrk => (⟨u4, p.kind, p.x, p.y, p.size⟩ : Mrk)) (fun _ => rfl), ⟨⟨_, ?_, rfl⟩, _, by omega, by omega, rfl⟩, Res.le_refl _, trivial⟩
      exact allK_upd (g := fun p : Mrk => (⟨u4, p.kind, p.x, p.y, p.size⟩ : Mrk)) hsh (fun y hy => ⟨hw4, hy.2⟩)
    · first
        | refine .freeze _ 5 133 5 _ _ rfl (.weak _ ?_)
        | refine .freeze _ 100 133 5 _ _ rfl (.weak _ ?_)
      (conv => whnf)
      refine ⟨_, [(1000000, strm n L _)], SV.le_upd (fun p : Mrk => (⟨p.pan, u5, p.x, p.y, p.size⟩ : Mrk)) (fun _ => rfl), ⟨⟨_, ?_, rfl⟩, _, by omega, by omega, rfl⟩, Res.le_refl _, trivial⟩
      exact allK_upd (g := fun p : Mrk => (⟨p.pan, u5, p.x, p.y, p.size⟩ : Mrk)) hsh (fun y hy => hy)
    · first
        | refine .freeze _ 5 133 5 _ _ rfl (.weak _ ?_)
        | refine .freeze _ 100 133 5 _ _ rfl (.weak _ ?_)
      (conv => whnf)
      refine ⟨_, [(1000000, strm n L _)], SV.le_upd2 (f := mkF) (d := mk0) (l := e) (fun p : Mrk => (⟨p.pan, p.kind, u6, p.y, p.size⟩ : Mrk)) (fun p : Mrk => (⟨p.pan, p.kind, p.x, u7, p.size⟩ : Mrk)) (fun _ => rfl) (fun _ => rfl), ⟨⟨_, ?_, rfl⟩, _, by omega, by omega, rfl⟩, Res.le_refl _, trivial⟩
      exact allK_upd (g := fun p : Mrk => (⟨p.pan, p.kind, p.x, u7, p.size⟩ : Mrk)) (allK_upd (g := fun p : Mrk => (⟨p.pan, p.kind, u6, p.y, p.size⟩ : Mrk)) hsh (fun y hy => ⟨hy.1, (show -1099511627776 ≤ u6 ∧ u6 ≤ 1099511627776 from by omega), hy.2.2⟩)) (fun y hy => ⟨hy.1, hy.2.1, pk hu7 rfl, hy.2.2.2⟩)
    · first
        | refine .freeze _ 5 133 5 _ _ rfl (.weak _ ?_)
        | refine .freeze _ 100 133 5 _ _ rfl (.weak _ ?_)
      (conv => whnf)
      refine ⟨_, [(1000000, strm n L _)], SV.le_upd (fun p : Mrk => (⟨p.pan, p.kind, p.x, p.y, u8⟩ : Mrk)) (fun _ => rfl), ⟨⟨_, ?_, rfl⟩, _, by omega, by omega, rfl⟩, Res.le_refl _, trivial⟩
      exact allK_upd (g := fun p : Mrk => (⟨p.pan, p.kind, p.x, p.y, u8⟩ : Mrk)) hsh (fun y hy => ⟨hy.1, hy.2.1, hy.2.2.1, (show -1099511627776 ≤ u8 ∧ u8 ≤ 1099511627776 from by omega)⟩)
    all_goals
      first
        | refine .freeze _ 5 133 5 _ _ rfl (.weak _ ?_)
        | refine .freeze _ 100 133 5 _ _ rfl (.weak _ ?_)
      (conv => whnf)
      exact ⟨_, [(1000000, strm n L _)], SV.le_refl _, ⟨⟨e, hsh, rfl⟩, _, by omega, by omega, rfl⟩, Res.le_refl _, trivial⟩
end Go.Proofs.YtnkdlkgannnfhaaGreatDoor
set_option maxRecDepth 20000
namespace Go.Proofs.YtnkdlkgannnfhaaGreatDoor
open Go Go.Eng
theorem pkc {l : List Int} {x : Int} (h : x ∈ l) (hl : (l.all fun y => decide (-16 ≤ y) && decide (y ≤ 16)) = true) : -16 ≤ x ∧ x ≤ 16 := by
  have := List.all_eq_true.1 hl x h
  simpa using this
theorem pkz {x : Int} (h : x ∈ [(0 : Int), 0, 1, 2]) : 0 ≤ x ∧ x ≤ 2 := by
  simp at h; omega
theorem mkB_mono {c d : Int} {m : Mrk} (h : mkB c m) (hc : c ≤ d) : mkB d m := by
  unfold mkB at *; omega
-- Seen
set_option maxHeartbeats 2000000 in
theorem z141 (n : Nat) (L : Nat → Int) (hL : Rok n L) (a : Int) (h0 : 0 ≤ a) (ha : a ≤ 2^37) (l : List Mrk) (k : Nat) (hk : k ≤ 10) (cc : Int) (hc0 : 0 ≤ cc) (hc : cc ≤ 2^41) (hl : allK (mkB cc) k l) :
    FSpec Tryz.prog 141 [.ptr 1000000 0, .d (mrks l)] [(1000000, strm n L a)] (fun y r => (∃ l', allK (mkB (max (cc + 16) 1099511627776)) (k + 2) l' ∧ y = .d (mrks l')) ∧ Moved n L a 200 r) := by
  have hl1 := hl.1
  refine spec_of hT (C := []) Tryz.func141 rfl Tryz.call141 rfl rfl rfl ?_
  conv => whnf
  refine LoopX.rule hT (C := []) (ι := Int × List Mrk × Nat) (fun (b, o, i) => (a ≤ b ∧ b ≤ a + 4 * i ∧ i ≤ l.length) ∧ allK (mkB (cc + 16)) i o)
    (fun (b, o, i) => mkSt [(0, .ptr 1000000 0), (5, .buf 5), (8, .d (mrks l)), (9, .d (.int .i64 l.length)), (10, .d (.int .i64 i))] [(1000000, strm n L b), (5, seqB 133 5 mkF mk0 o)])
    (fun (_, _, i) => l.length - i) (a, [], 0) ⟨⟨by simp, by simp, by simp⟩, ⟨by simp, by simp⟩⟩ ?_ ?_
  · exact (Entails.nil 5 5 133 5 (rowF mkF mk0 []) rfl rfl (by decide)).trans (by refine Entails.mk' [(1000000, 1000000), (5, 5)] rfl rfl ?_ ?_ <;> repeat' (first | exact True.intro | exact SV.le_refl _ | exact Res.le_refl _ | exact SV.le_int (by omega) | exact SV.le_any _ | refine And.intro ?_ ?_))
  rintro ⟨b, o, i⟩ ⟨⟨p1, p2, p3⟩, q1⟩
  have p3 : i ≤ l.length := p3
  have ho1 := q1.1
  have e1 : (i : Int).toNat = i := Int.toNat_natCast i
  have hx := fun (h : (i : Int) < l.length) => hl.2 (l.getD (i : Int).toNat mk0) (getD_mem (by omega))
  unfold mkB at hx
  conv => whnf
  repeat' (first
    | (refine CallX.of (s84 n L hL _ ?_ ?_ _ ?_) [(1000000, 1000000)] rfl ⟨SV.le_refl _, SV.le_refl _, trivial⟩ ⟨Res.le_refl _, trivial⟩ rfl rfl ?_; rotate_right; rintro x rout ⟨⟨f, rfl⟩, ⟨c, c1, c2, rfl⟩⟩; refine ⟨rfl, ?_⟩; conv => whnf)
    | (refine CallX.of (s33 n L hL _ ?_ ?_ [0, 0, 3, -3, 10, 12] ?_ ?_) [(1000000, 1000000)] rfl ⟨SV.le_refl _, SV.le_lit rfl rfl, trivial⟩ ⟨Res.le_refl _, trivial⟩ rfl rfl ?_; rotate_right; rintro x rout ⟨⟨u1, hu1, rfl⟩, ⟨c, c1, c2, rfl⟩⟩; have hw1 := pkc hu1 rfl; refine ⟨rfl, ?_⟩; conv => whnf)
    | (refine CallX.of (s33 n L hL _ ?_ ?_ [0, 0, 4, 5, 16] ?_ ?_) [(1000000, 1000000)] rfl ⟨SV.le_refl _, SV.le_lit rfl rfl, trivial⟩ ⟨Res.le_refl _, trivial⟩ rfl rfl ?_; rotate_right; rintro x rout ⟨⟨u2, hu2, rfl⟩, ⟨c, c1, c2, rfl⟩⟩; have hw2 := pkc hu2 rfl; refine ⟨rfl, ?_⟩; conv => whnf)
    | (refine CallX.of (s33 n L hL _ ?_ ?_ [0, 0, 1, 3, -1, -3] ?_ ?_) [(1000000, 1000000)] rfl ⟨SV.le_refl _, SV.le_lit rfl rfl, trivial⟩ ⟨Res.le_refl _, trivial⟩ rfl rfl ?_; rotate_right; rintro x rout ⟨⟨u3, hu3, rfl⟩, ⟨c, c1, c2, rfl⟩⟩; have hw3 := pkc hu3 rfl; refine ⟨rfl, ?_⟩; conv => whnf)
    | (refine CallX.of (s33 n L hL _ ?_ ?_ [0, 0, 1, 2] ?_ ?_) [(1000000, 1000000)] rfl ⟨SV.le_refl _, SV.le_lit rfl rfl, trivial⟩ ⟨Res.le_refl _, trivial⟩ rfl rfl ?_; rotate_right; rintro x rout ⟨⟨u4, hu4, rfl⟩, ⟨c, c1, c2, rfl⟩⟩; have hw4 := pkz hu4; refine ⟨rfl, ?_⟩; conv => whnf)
    | (refine CallX.of (s96 n L hL _ ?_ ?_ u4 ?_ ?_) [(1000000, 1000000)] rfl ⟨SV.le_refl _, SV.le_refl _, trivial⟩ ⟨Res.le_refl _, trivial⟩ rfl rfl ?_; rotate_right; rintro x rout ⟨⟨l2, q2, rfl⟩, ⟨c, c1, c2, rfl⟩⟩; have hq2 := q2.1; refine ⟨rfl, ?_⟩; conv => whnf)
    | (refine And.intro (by have := hx (by omega); unfold inI64; omega) ?_; conv => whnf)
    | (refine br_intro (fun hb => ?_) (fun hb => ?_) <;> (try simp only [decide_eq_true_eq, decide_eq_false_iff_not, Bool.not_eq_true', Bool.not_eq_false', Bool.and_eq_true, Bool.or_eq_true, beq_iff_eq, not_and, Int.not_le, Int.not_lt, Int.toNat_natCast, beq_eq_false_iff_ne, ne_eq, eq_self, not_true_eq_false, not_false_eq_true] at hb) <;> (conv => whnf))
    | (refine RegX.rule (id := 6) hT rfl [] [(0, []), (1, []), (2, [0, 1]), (3, [0, 1, 2]), (7, [0, 1, 2, 3]), (8, [0, 1, 2, 3]), (9, [0, 1, 2, 3, 7, 8]), (10, [0, 1, 2, 3, 7, 8, 9]), (14, [0, 1, 2, 3, 7, 8, 9, 10]), (15, [0, 1, 2, 3, 7, 8, 9, 10]), (16, [0, 1, 2, 3, 7, 8, 9, 10, 14, 15]), (17, [0, 1, 2, 3, 7, 8, 9, 10, 14, 15, 16]), (4, [0, 1, 7, 8, 9, 10, 14, 15, 16, 17]), (5, [7, 8, 9, 10, 14, 15, 16, 17]), (6, [7, 8, 9, 10, 14, 15, 16, 17]), (21, [9, 10, 16, 17]), (11, [0, 1, 7, 8, 14, 15, 16, 17, 5, 6, 21]), (12, [0, 1, 14, 15, 16, 17, 5, 6, 21]), (13, [0, 1, 14, 15, 16, 17, 5, 6, 21]), (18, [0, 1, 7, 8, 14, 15, 5, 6, 21, 12, 13]), (19, [0, 1, 7, 8, 5, 6, 21, 12, 13]), (20, [0, 1, 7, 8, 5, 6, 21, 12, 13]), (22, [12, 13, 19, 20]), (23, [19, 20]), (24, [19, 20]), (25, []), (26, [])] (by decide +kernel) ?_; conv => whnf)
    | omega
    | (refine And.intro ?_ ?_; ((try dsimp only); first | omega | (refine ⟨by omega, by omega, Int.le_trans (Int.mul_le_mul_of_nonneg_right (Int.ofNat_le.2 (Nat.le_of_ble_eq_true (rfl : Nat.ble _ 1024 = true))) (by omega)) (by omega), by omega⟩) | (refine Nat.le_trans (Nat.mul_le_mul_left _ (Nat.le_of_ble_eq_true (rfl : Nat.ble _ 1024 = true))) ?_; omega) | (unfold inI64; omega) | (constructor <;> omega) | (simp only [inI64, List.length_cons, List.length_append, List.length_nil, List.length_set] at *; omega) | decide | (unfold inI64; decide)); conv => whnf)
    | omega | decide | assumption)
  · refine ⟨(_, o, i + 1), ⟨⟨by omega, by omega, by omega⟩, allK_le q1 (by omega)⟩, by show l.length - (i + 1) < l.length - i; omega, Entails.mk' [(1000000, 1000000), (5, 5)] rfl rfl ⟨SV.le_refl _, SV.le_refl _, SV.le_refl _, SV.le_refl _, SV.le_refl _, trivial⟩ ⟨Res.le_refl _, Res.le_refl _, trivial⟩⟩
  · have hx := hx (by omega)
    refine ⟨(_, o ++ [⟨(l.getD (i : Int).toNat mk0).pan, (l.getD (i : Int).toNat mk0).kind, max 0 ((l.getD (i : Int).toNat mk0).x + u1), max 0 ((l.getD (i : Int).toNat mk0).y + u2), max 1 ((l.getD (i : Int).toNat mk0).size + u3)⟩], i + 1), ⟨⟨by omega, by omega, by omega⟩, allK_snoc q1 (Nat.le_refl _) ⟨hx.1, ?_, ?_, ?_⟩⟩, by show l.length - (i + 1) < l.length - i; omega, Entails.mk' [(1000000, 1000000), (5, 43)] rfl rfl ⟨SV.le_refl _, SV.le_refl _, SV.le_refl _, SV.le_refl _, SV.le_refl _, trivial⟩ ⟨Res.le_refl _, Res.le_snocF rfl, trivial⟩⟩
    · show -(cc + 16) ≤ max 0 ((l.getD (i : Int).toNat mk0).x + u1) ∧ max 0 ((l.getD (i : Int).toNat mk0).x + u1) ≤ cc + 16; omega
    · show -(cc + 16) ≤ max 0 ((l.getD (i : Int).toNat mk0).y + u2) ∧ max 0 ((l.getD (i : Int).toNat mk0).y + u2) ≤ cc + 16; omega
    · show -(cc + 16) ≤ max 1 ((l.getD (i : Int).toNat mk0).size + u3) ∧ max 1 ((l.getD (i : Int).toNat mk0).size + u3) ≤ cc + 16; omega
  have hall : allK (mkB (max (cc + 16) 1099511627776)) (k + 2) (o ++ l2) := by
    refine ⟨by rw [List.length_append]; omega, fun x hx => ?_⟩
    rcases List.mem_append.1 hx with q | q
    · exact mkB_mono (q1.2 x q) (by omega)
    · exact mkB_mono (q2.2 x q) (by omega)
  obtain ⟨w, hw⟩ : ∃ w, w = o ++ l2 := ⟨_, rfl⟩
  have hwl : w.length ≤ k + 2 := by rw [hw]; exact hall.1
  rw [← hw] at hall
  refine CallX.of (s156 198 mrkCmp w (by omega) (fun p q _ _ => s157 p q)) [(1000001, 51)] rfl ⟨SV.le_refl _, SV.le_refl _, trivial⟩ ⟨by rw [hw]; exact Res.le_appF, trivial⟩ rfl rfl ?_
  rintro x rout ⟨rfl, d, hd, rfl⟩
  refine ⟨rfl, ?_⟩
  conv => whnf
  repeat' (first
    | (refine br_intro (fun hb => ?_) (fun hb => ?_) <;> (try simp only [decide_eq_true_eq, decide_eq_false_iff_not, Bool.not_eq_true', Bool.not_eq_false', Bool.and_eq_true, Bool.or_eq_true, beq_iff_eq, not_and, Int.not_le, Int.not_lt, Int.toNat_natCast, beq_eq_false_iff_ne, ne_eq, eq_self, not_true_eq_false, not_false_eq_true] at hb) <;> (conv => whnf))
    | (refine RegX.rule (id := 6) hT rfl [] [(0, []), (1, []), (2, [0, 1]), (3, [0, 1, 2]), (7, [0, 1, 2, 3]), (8, [0, 1, 2, 3]), (9, [0, 1, 2, 3, 7, 8]), (10, [0, 1, 2, 3, 7, 8, 9]), (14, [0, 1, 2, 3, 7, 8, 9, 10]), (15, [0, 1, 2, 3, 7, 8, 9, 10]), (16, [0, 1, 2, 3, 7, 8, 9, 10, 14, 15]), (17, [0, 1, 2, 3, 7, 8, 9, 10, 14, 15, 16]), (4, [0, 1, 7, 8, 9, 10, 14, 15, 16, 17]), (5, [7, 8, 9, 10, 14, 15, 16, 17]), (6, [7, 8, 9, 10, 14, 15, 16, 17]), (21, [9, 10, 16, 17]), (11, [0, 1, 7, 8, 14, 15, 16, 17, 5, 6, 21]), (12, [0, 1, 14, 15, 16, 17, 5, 6, 21]), (13, [0, 1, 14, 15, 16, 17, 5, 6, 21]), (18, [0, 1, 7, 8, 14, 15, 5, 6, 21, 12, 13]), (19, [0, 1, 7, 8, 5, 6, 21, 12, 13]), (20, [0, 1, 7, 8, 5, 6, 21, 12, 13]), (22, [12, 13, 19, 20]), (23, [19, 20]), (24, [19, 20]), (25, []), (26, [])] (by decide +kernel) ?_; conv => whnf)
    | omega
    | (refine And.intro ?_ ?_; ((try dsimp only); first | omega | (refine ⟨by omega, by omega, Int.le_trans (Int.mul_le_mul_of_nonneg_right (Int.ofNat_le.2 (Nat.le_of_ble_eq_true (rfl : Nat.ble _ 1024 = true))) (by omega)) (by omega), by omega⟩) | (refine Nat.le_trans (Nat.mul_le_mul_left _ (Nat.le_of_ble_eq_true (rfl : Nat.ble _ 1024 = true))) ?_; omega) | (unfold inI64; omega) | (constructor <;> omega) | (simp only [inI64, List.length_cons, List.length_append, List.length_nil, List.length_set] at *; omega) | decide | (unfold inI64; decide)); conv => whnf)
    | omega | decide | assumption)
  refine CallX.of (s158 d (by have := hd.1; omega)) [(1000001, 51), (59, 100)] rfl ⟨SV.le_refl _, trivial⟩ ⟨Res.le_refl _, trivial⟩ rfl rfl ?_
  rintro x rout ⟨e, he, nm, hnm, rfl, rfl⟩
  have hsh : allK (mkB (max (cc + 16) 1099511627776)) (k + 2) e := ⟨by have := hd.1; have := he.1; omega, fun p hp => hall.2 p (hd.2 p (he.2 p hp))⟩
  rcases hnm with rfl | rfl
  · refine ⟨rfl, ?_⟩
    conv => whnf
    repeat' (first
      | (refine br_intro (fun hb => ?_) (fun hb => ?_) <;> (try simp only [decide_eq_true_eq, decide_eq_false_iff_not, Bool.not_eq_true', Bool.not_eq_false', Bool.and_eq_true, Bool.or_eq_true, beq_iff_eq, not_and, Int.not_le, Int.not_lt, Int.toNat_natCast, beq_eq_false_iff_ne, ne_eq, eq_self, not_true_eq_false, not_false_eq_true] at hb) <;> (conv => whnf))
      | (refine RegX.rule (id := 6) hT rfl [] [(0, []), (1, []), (2, [0, 1]), (3, [0, 1, 2]), (7, [0, 1, 2, 3]), (8, [0, 1, 2, 3]), (9, [0, 1, 2, 3, 7, 8]), (10, [0, 1, 2, 3, 7, 8, 9]), (14, [0, 1, 2, 3, 7, 8, 9, 10]), (15, [0, 1, 2, 3, 7, 8, 9, 10]), (16, [0, 1, 2, 3, 7, 8, 9, 10, 14, 15]), (17, [0, 1, 2, 3, 7, 8, 9, 10, 14, 15, 16]), (4, [0, 1, 7, 8, 9, 10, 14, 15, 16, 17]), (5, [7, 8, 9, 10, 14, 15, 16, 17]), (6, [7, 8, 9, 10, 14, 15, 16, 17]), (21, [9, 10, 16, 17]), (11, [0, 1, 7, 8, 14, 15, 16, 17, 5, 6, 21]), (12, [0, 1, 14, 15, 16, 17, 5, 6, 21]), (13, [0, 1, 14, 15, 16, 17, 5, 6, 21]), (18, [0, 1, 7, 8, 14, 15, 5, 6, 21, 12, 13]), (19, [0, 1, 7, 8, 5, 6, 21, 12, 13]), (20, [0, 1, 7, 8, 5, 6, 21, 12, 13]), (22, [12, 13, 19, 20]), (23, [19, 20]), (24, [19, 20]), (25, []), (26, [])] (by decide +kernel) ?_; conv => whnf)
      | omega
      | (refine And.intro ?_ ?_; ((try dsimp only); first | omega | (refine ⟨by omega, by omega, Int.le_trans (Int.mul_le_mul_of_nonneg_right (Int.ofNat_le.2 (Nat.le_of_ble_eq_true (rfl : Nat.ble _ 1024 = true))) (by omega)) (by omega), by omega⟩) | (refine Nat.le_trans (Nat.mul_le_mul_left _ (Nat.le_of_ble_eq_true (rfl : Nat.ble _ 1024 = true))) ?_; omega) | (unfold inI64; omega) | (constructor <;> omega) | (simp only [inI64, List.length_cons, List.length_append, List.length_nil, List.length_set] at *; omega) | decide | (unfold inI64; decide)); conv => whnf)
      | omega | decide | assumption)
    all_goals
      first
        | refine .freeze _ 51 133 5 _ _ rfl (.weak _ ?_)
        | refine .freeze _ 100 133 5 _ _ rfl (.weak _ ?_)
      (conv => whnf)
      exact ⟨_, [(1000000, strm n L _)], SV.le_refl _, ⟨⟨e, hsh, rfl⟩, _, by omega, by omega, rfl⟩, Res.le_refl _, trivial⟩
  · refine ⟨rfl, ?_⟩
    conv => whnf
    repeat' (first
      | (refine br_intro (fun hb => ?_) (fun hb => ?_) <;> (try simp only [decide_eq_true_eq, decide_eq_false_iff_not, Bool.not_eq_true', Bool.not_eq_false', Bool.and_eq_true, Bool.or_eq_true, beq_iff_eq, not_and, Int.not_le, Int.not_lt, Int.toNat_natCast, beq_eq_false_iff_ne, ne_eq, eq_self, not_true_eq_false, not_false_eq_true] at hb) <;> (conv => whnf))
      | (refine RegX.rule (id := 6) hT rfl [] [(0, []), (1, []), (2, [0, 1]), (3, [0, 1, 2]), (7, [0, 1, 2, 3]), (8, [0, 1, 2, 3]), (9, [0, 1, 2, 3, 7, 8]), (10, [0, 1, 2, 3, 7, 8, 9]), (14, [0, 1, 2, 3, 7, 8, 9, 10]), (15, [0, 1, 2, 3, 7, 8, 9, 10]), (16, [0, 1, 2, 3, 7, 8, 9, 10, 14, 15]), (17, [0, 1, 2, 3, 7, 8, 9, 10, 14, 15, 16]), (4, [0, 1, 7, 8, 9, 10, 14, 15, 16, 17]), (5, [7, 8, 9, 10, 14, 15, 16, 17]), (6, [7, 8, 9, 10, 14, 15, 16, 17]), (21, [9, 10, 16, 17]), (11, [0, 1, 7, 8, 14, 15, 16, 17, 5, 6, 21]), (12, [0, 1, 14, 15, 16, 17, 5, 6, 21]), (13, [0, 1, 14, 15, 16, 17, 5, 6, 21]), (18, [0, 1, 7, 8, 14, 15, 5, 6, 21, 12, 13]), (19, [0, 1, 7, 8, 5, 6, 21, 12, 13]), (20, [0, 1, 7, 8, 5, 6, 21, 12, 13]), (22, [12, 13, 19, 20]), (23, [19, 20]), (24, [19, 20]), (25, []), (26, [])] (by decide +kernel) ?_; conv => whnf)
      | omega
      | (refine And.intro ?_ ?_; ((try dsimp only); first | omega | (refine ⟨by omega, by omega, Int.le_trans (Int.mul_le_mul_of_nonneg_right (Int.ofNat_le.2 (Nat.le_of_ble_eq_true (rfl : Nat.ble _ 1024 = true))) (by omega)) (by omega), by omega⟩) | (refine Nat.le_trans (Nat.mul_le_mul_left _ (Nat.le_of_ble_eq_true (rfl : Nat.ble _ 1024 = true))) ?_; omega) | (unfold inI64; omega) | (constructor <;> omega) | (simp only [inI64, List.length_cons, List.length_append, List.length_nil, List.length_set] at *; omega) | decide | (unfold inI64; decide)); conv => whnf)
      | omega | decide | assumption)
    all_goals
      first
        | refine .freeze _ 51 133 5 _ _ rfl (.weak _ ?_)
        | refine .freeze _ 100 133 5 _ _ rfl (.weak _ ?_)
      (conv => whnf)
      exact ⟨_, [(1000000, strm n L _)], SV.le_refl _, ⟨⟨e, hsh, rfl⟩, _, by omega, by omega, rfl⟩, Res.le_refl _, trivial⟩
end Go.Proofs.YtnkdlkgannnfhaaGreatDoor
set_option maxRecDepth 20000
namespace Go.Proofs.YtnkdlkgannnfhaaGreatDoor
open Go Go.Eng
def twoE (p : List Pnl) (r : Rul) (a b : List Mrk) : Int := firstE [rulE r, mrksPE p a, onPE p b]
theorem twoE_eq (p : List Pnl) (r : Rul) (a b : List Mrk) : firstE [rulE r, mrksPE p a, mrksPE p b] = twoE p r a b := by
  unfold twoE mrksPE
  simp only [firstE]
  grind
theorem mkOk_of {c : Int} {k : Nat} {l : List Mrk} (h : allK (mkB c) k l) (hk : k ≤ 100) : mkOk l :=
  ⟨by have := h.1; omega, fun x hx => by have := (h.2 x hx).1; unfold mkK; omega⟩
theorem pnOk_of {k : Nat} {l : List Pnl} (h : allK pnG k l) (hk : k ≤ 100) : pnOk l :=
  ⟨by have := h.1; omega, fun x hx => by have := h.2 x hx; unfold pnG at this; unfold pnK; omega⟩
abbrev skV (p : List Pnl) (r : Rul) (a b : List Mrk) : SV := .agg [.d (pnls p), .d (.int .i64 r.near), .d (.int .i64 r.slack), .d (.int .i64 r.join), .d (.int .i64 r.part), .d (mrks a), .d (mrks b), .d (.int .i64 (twoE p r a b))]
-- sketchOf
theorem z46 (n : Nat) (L : Nat → Int) (hL : Rok n L) (a : Int) (h0 : 0 ≤ a) (ha : a ≤ 2^36) :
    FSpec Tryz.prog 46 [.ptr 1000000 0] [(1000000, strm n L a)] (fun y r => (∃ p z m o, allK pnG 3 p ∧ allK mkG 8 m ∧ allK (mkB 1099511627792) 10 o ∧ y = skV p z m o) ∧ Moved n L a 400 r) := by
  refine spec_of hT (C := []) Tryz.func46 rfl Tryz.call46 rfl rfl rfl ?_
  conv => whnf
  repeat' (first
    | (refine CallX.of (s95 n L hL _ ?_ ?_ ) [(1000000, 1000000)] rfl ⟨SV.le_refl _, trivial⟩ ⟨Res.le_refl _, trivial⟩ rfl rfl ?_; rotate_right; rintro x rout ⟨⟨p, q1, rfl⟩, ⟨c, c1, c2, rfl⟩⟩; have hp := pnOk_of q1 (by omega); refine ⟨rfl, ?_⟩; conv => whnf)
    | (refine CallX.of (s97 n L hL _ ?_ ?_ ) [(1000000, 1000000)] rfl ⟨SV.le_refl _, trivial⟩ ⟨Res.le_refl _, trivial⟩ rfl rfl ?_; rotate_right; rintro x rout ⟨⟨z, rfl⟩, ⟨c, c1, c2, rfl⟩⟩; refine ⟨rfl, ?_⟩; conv => whnf)
    | (refine CallX.of (s64 n L hL _ ?_ ?_ _ _ ?_ ?_ ?_ ?_) [(1000000, 1000000)] rfl ⟨SV.le_refl _, SV.le_refl _, SV.le_refl _, trivial⟩ ⟨Res.le_refl _, trivial⟩ rfl rfl ?_; rotate_right; rintro x rout ⟨⟨m, hm1, hm2, rfl⟩, ⟨c, c1, c2, rfl⟩⟩; refine ⟨rfl, ?_⟩; conv => whnf)
    | (refine CallX.of (s96 n L hL _ ?_ ?_ m ?_ ?_) [(1000000, 1000000)] rfl ⟨SV.le_refl _, SV.le_refl _, trivial⟩ ⟨Res.le_refl _, trivial⟩ rfl rfl ?_; rotate_right; rintro x rout ⟨⟨m1, q2, rfl⟩, ⟨c, c1, c2, rfl⟩⟩; have hm := mkOk_of q2 (by omega); refine ⟨rfl, ?_⟩; conv => whnf)
    | (refine CallX.of (z141 n L hL _ ?_ ?_ m1 8 (by omega) 1099511627776 (by omega) (by omega) (allK_le q2 (by omega))) [(1000000, 1000000)] rfl ⟨SV.le_refl _, SV.le_refl _, trivial⟩ ⟨Res.le_refl _, trivial⟩ rfl rfl ?_; rotate_right; rintro x rout ⟨⟨o, q3, rfl⟩, ⟨c, c1, c2, rfl⟩⟩; have ho := mkOk_of q3 (by omega); refine ⟨rfl, ?_⟩; conv => whnf)
    | (refine CallX.exact (s103 z) rfl rfl ?_; rotate_right; conv => whnf)
    | (refine CallX.exact (s101 p m1 hp hm) rfl rfl ?_; rotate_right; conv => whnf)
    | (refine CallX.exact (s101 p o hp ho) rfl rfl ?_; rotate_right; conv => whnf)
    | (refine CallX.pure (s17 [rulE z, mrksPE p m1, mrksPE p o] (by simp)) ⟨SV.le_lit (by rfl) (by rfl), trivial⟩ rfl ?_; conv => whnf)
    | (refine br_intro (fun hb => ?_) (fun hb => ?_) <;> (try simp only [decide_eq_true_eq, decide_eq_false_iff_not, Bool.not_eq_true', Bool.not_eq_false', Bool.and_eq_true, Bool.or_eq_true, beq_iff_eq, not_and, Int.not_le, Int.not_lt, Int.toNat_natCast, beq_eq_false_iff_ne, ne_eq, eq_self, not_true_eq_false, not_false_eq_true] at hb) <;> (conv => whnf))
    | (refine RegX.rule (id := 3) hT rfl [] [(0, []), (1, []), (3, [0, 1]), (4, [0, 1]), (5, [0, 1, 3, 4]), (6, [0, 1, 3, 4]), (8, [0, 1, 3, 4, 5, 6]), (9, [0, 1, 3, 4, 5, 6]), (10, [0, 1, 3, 4, 5, 6, 8, 9]), (11, [0, 1, 3, 4, 5, 6, 8, 9]), (2, [3, 4, 5, 6, 8, 9, 10, 11]), (7, [8, 9, 10, 11]), (12, []), (13, []), (14, []), (15, []), (16, [])] (by decide +kernel) ?_; conv => whnf)
    | omega
    | (refine And.intro ?_ ?_; ((try dsimp only); first | omega | (refine ⟨by omega, by omega, Int.le_trans (Int.mul_le_mul_of_nonneg_right (Int.ofNat_le.2 (Nat.le_of_ble_eq_true (rfl : Nat.ble _ 1024 = true))) (by omega)) (by omega), by omega⟩) | (refine Nat.le_trans (Nat.mul_le_mul_left _ (Nat.le_of_ble_eq_true (rfl : Nat.ble _ 1024 = true))) ?_; omega) | (unfold inI64; omega) | (constructor <;> omega) | (simp only [inI64, List.length_cons, List.length_append, List.length_nil, List.length_set] at *; omega) | decide | (unfold inI64; decide)); conv => whnf)
    | omega | decide | assumption)
  refine .ret _ ?_
  conv => whnf
  refine ⟨[(1000000, strm n L _)], ⟨⟨p, z, m1, o, q1, allK_le q2 (by omega), q3, ?_⟩, _, by omega, by omega, rfl⟩, Res.le_refl _, trivial⟩
  rw [show skV p z m1 o = .agg [.d (pnls p), .d (.int .i64 z.near), .d (.int .i64 z.slack), .d (.int .i64 z.join), .d (.int .i64 z.part), .d (mrks m1), .d (mrks o), .d (.int .i64 (firstE [rulE z, mrksPE p m1, mrksPE p o]))] from by rw [twoE_eq]]
  rfl
end Go.Proofs.YtnkdlkgannnfhaaGreatDoor
set_option maxRecDepth 20000
namespace Go.Proofs.YtnkdlkgannnfhaaGreatDoor
open Go Go.Eng
theorem SV.le_takeP {α : Type} {f : α → List DV} {d : α} {l : List α} {k n m : Nat} {h : Nat → List DV} (hn : n = m) (hm : m ≤ l.length) (hg : ∀ i, i < m → h i = rowF f d l i) :
    SV.le (.d (.ro k n h)) (.d (seqD k f d (l.take m))) :=
  SV.le_ro (by rw [List.length_take]; omega) (fun i hi => by
    rw [hg i (by omega)]
    simp only [rowF]
    rw [List.getD_eq_getElem?_getD, List.getD_eq_getElem?_getD, List.getElem?_take_of_lt (by omega)])
end Go.Proofs.YtnkdlkgannnfhaaGreatDoor
set_option maxRecDepth 20000
namespace Go.Proofs.YtnkdlkgannnfhaaGreatDoor
open Go Go.Eng
def usedO (n : Nat) (o : List Int) : List Bool := (List.range n).map fun k : Nat => o.contains (k : Int)
theorem usedO_len (n : Nat) (o : List Int) : (usedO n o).length = n := by simp [usedO]
theorem usedO_get {n : Nat} {o : List Int} {k : Nat} (h : k < n) : (usedO n o).getD k false = o.contains (k : Int) := by
  unfold usedO
  rw [List.getD_eq_getElem?_getD, List.getElem?_map, List.getElem?_range h]; rfl
theorem usedO_snoc {n : Nat} {o : List Int} {x : Int} (h0 : 0 ≤ x) (h1 : x < n) : (usedO n o).set x.toNat true = usedO n (o ++ [x]) := by
  refine eq_of_getD false (by rw [List.length_set, usedO_len, usedO_len]) (fun j hj => ?_)
  rw [List.length_set, usedO_len] at hj
  rw [usedO_get hj, List.getD_eq_getElem?_getD, List.getElem?_set]
  by_cases e : x.toNat = j
  · rw [if_pos e, if_pos (by rw [usedO_len]; omega)]
    have : (j : Int) = x := by omega
    rw [this]
    simp
  · rw [if_neg e, ← List.getD_eq_getElem?_getD, usedO_get hj]
    rw [Bool.eq_iff_iff, List.contains_iff_mem, List.contains_iff_mem, List.mem_append, List.mem_singleton]
    constructor
    · exact .inl
    · rintro (q | q)
      · exact q
      · omega
theorem drvE_zero {l : List Roa} {start : List UInt8} {m : List Mov} (h : drvE l start m = 0) : rdsE l = 0 ∧ isKeyB start = true ∧ mvsE m = 0 := by
  unfold drvE at h
  simp only [firstE] at h
  grind
def nearT (l : List Roa) (start : List UInt8) (m : List Mov) : SV := if drvE l start m ≠ 0 then .tup [.d .nilsl, .d (.int .i64 0), .d (.int .i64 (drvE l start m))] else .tup [.d (ints (nearV l start m).1), .d (.int .i64 (nearV l start m).2.1), .d (.int .i64 (if (nearV l start m).2.2 = true then 0 else 8))]
-- shift.Nearest
set_option maxHeartbeats 4000000 in
theorem z56 (l : List Roa) (start : List UInt8) (m : List Mov) (hrl : rdOk l) (hs : start.length ≤ 2^40) (hml : mvOk m) (hm : m.length ≤ 1000) :
    FSpec Tryz.prog 56 [.d (roas l), .d (.str start), .d (movs m)] [] (fun y r => y = nearT l start m ∧ r = []) := by
  have h134 := z134 l start m hrl hs hml
  unfold nearT
  by_cases hd : drvE l start m = 0
  · rw [if_neg (by omega)]
    rw [hd] at h134
    obtain ⟨hl, _, _⟩ := drvE_zero hd
    have hl2 := (rds_all hl).1
    have h117 := z117 l hl
    refine spec_of hT (C := []) Tryz.func56 rfl Tryz.call56 rfl rfl rfl ?_
    conv => whnf
    repeat' (first
      | (refine CallX.exact (h134) rfl rfl ?_; rotate_right; conv => whnf)
      | (refine CallX.of h117 [(3, 33)] rfl ⟨SV.le_refl _, trivial⟩ trivial rfl rfl ?_; rintro x rout ⟨rfl, rfl⟩; refine ⟨rfl, ?_⟩; conv => whnf)
      | (refine br_intro (fun hb => ?_) (fun hb => ?_) <;> (try simp only [decide_eq_true_eq, decide_eq_false_iff_not, Bool.not_eq_true', Bool.not_eq_false', Bool.and_eq_true, Bool.or_eq_true, beq_iff_eq, not_and, Int.not_le, Int.not_lt, Int.toNat_natCast, beq_eq_false_iff_ne, ne_eq, eq_self, not_true_eq_false, not_false_eq_true] at hb) <;> (conv => whnf))
      | omega
      | (refine And.intro ?_ ?_; ((try dsimp only); first | omega | (refine ⟨by omega, by omega, Int.le_trans (Int.mul_le_mul_of_nonneg_right (Int.ofNat_le.2 (Nat.le_of_ble_eq_true (rfl : Nat.ble _ 1024 = true))) (by omega)) (by omega), by omega⟩) | (refine Nat.le_trans (Nat.mul_le_mul_left _ (Nat.le_of_ble_eq_true (rfl : Nat.ble _ 1024 = true))) ?_; omega) | (unfold inI64; omega) | (constructor <;> omega) | (simp only [inI64, List.length_cons, List.length_append, List.length_nil, List.length_set] at *; omega) | decide | (unfold inI64; decide)); conv => whnf)
      | omega | decide | assumption)
    refine LoopX.rule hT (C := []) (ι := List UInt8 × List Int × Int) (fun (c, o, s) => (nrS l start m o.length = some (c, o) ∧ partR l start m o = some (c, s)) ∧ o.length ≤ m.length)
      (fun (c, o, s) => mkSt [(1, .d (.str start)), (2, .d (movs m)), (10, .mp 10), (11, .buf 11), (12, .buf 12), (13, .d (.str c)), (14, .d (.int .i64 s))] [(10, netG l), (11, seqB 4 1 bF false (usedO m.length o)), (12, inB o)]) (fun (_, o, _) => m.length - o.length) (start, [], 0) ⟨⟨rfl, rfl⟩, by simp⟩ ?_ ?_
    · refine (Entails.nil 12 12 3 1 (rowF iF 0 []) rfl rfl (by decide)).trans (Entails.mk' [(10, 33), (11, 36), (12, 12)] rfl rfl ⟨SV.le_refl _, SV.le_refl _, SV.le_refl _, SV.le_refl _, SV.le_refl _, SV.le_refl _, SV.le_refl _, trivial⟩ ⟨Res.le_refl _, Res.le_buf (by simp [usedO_len]) (fun i hi => ?_), Res.le_refl _, trivial⟩)
      have hi' : i < m.length := by simpa [usedO_len] using hi
      simp only [rowF]
      rw [usedO_get hi']; rfl
    rintro ⟨c, o, s⟩ ⟨⟨p1, p3⟩, p2⟩
    have p2 : o.length ≤ m.length := p2
    have hok := nrS_ok p1
    have hsb := partR_bd (start := start) hl _ _ _ p3
    have hul := usedO_len m.length o
    by_cases hi : o.length < m.length
    · conv => whnf
      repeat' (first
        | (refine br_intro (fun hb => ?_) (fun hb => ?_) <;> (try simp only [decide_eq_true_eq, decide_eq_false_iff_not, Bool.not_eq_true', Bool.not_eq_false', Bool.and_eq_true, Bool.or_eq_true, beq_iff_eq, not_and, Int.not_le, Int.not_lt, Int.toNat_natCast, beq_eq_false_iff_ne, ne_eq, eq_self, not_true_eq_false, not_false_eq_true] at hb) <;> (conv => whnf))
        | omega
        | (refine And.intro ?_ ?_; ((try dsimp only); first | omega | (refine ⟨by omega, by omega, Int.le_trans (Int.mul_le_mul_of_nonneg_right (Int.ofNat_le.2 (Nat.le_of_ble_eq_true (rfl : Nat.ble _ 1024 = true))) (by omega)) (by omega), by omega⟩) | (refine Nat.le_trans (Nat.mul_le_mul_left _ (Nat.le_of_ble_eq_true (rfl : Nat.ble _ 1024 = true))) ?_; omega) | (unfold inI64; omega) | (constructor <;> omega) | (simp only [inI64, List.length_cons, List.length_append, List.length_nil, List.length_set] at *; omega) | decide | (unfold inI64; decide)); conv => whnf)
        | omega | decide | assumption)
      refine LoopX.rule hT (C := []) (ι := Nat) (fun i => i ≤ m.length)
        (fun i => mkSt [(1, .d (.str start)), (2, .d (movs m)), (10, .mp 10), (11, .buf 11), (12, .buf 12), (13, .d (.str c)), (14, .d (.int .i64 s)), (15, .d (.int .i64 (nxN l m c o i).1)), (16, .d (.int .i64 (nxN l m c o i).2)), (43, .d (movs m)), (44, .d (.int .i64 m.length)), (45, .d (.int .i64 i))] [(10, netG l), (11, seqB 4 1 bF false (usedO m.length o)), (12, inB o)]) (fun i => m.length - i) 0 (by omega) (by (refine Entails.mk' [(10, 10), (11, 11), (12, 12)] rfl rfl ?_ ?_ <;> repeat' (first | exact True.intro | exact SV.le_refl _ | exact Res.le_refl _ | exact SV.le_int (by omega) | exact SV.le_any _ | refine And.intro ?_ ?_)); done) ?_
      rintro i i1
      have e1 : (i : Int).toNat = i := Int.toNat_natCast i
      have h154 := z154 l c (m.getD (i : Int).toNat mv0).a
      have hus := fun (h : i < m.length) => usedO_get (o := o) h
      have hs1 : nxN l m c o (i + 1) = if (rideO l c (m.getD (i : Int).toNat mv0).a).isSome = true ∧ o.contains (i : Int) = false ∧ ((nxN l m c o i).1 < 0 ∨ rideV l c (m.getD (i : Int).toNat mv0).a < (nxN l m c o i).2) then ((i : Int), rideV l c (m.getD (i : Int).toNat mv0).a) else nxN l m c o i := rfl
      have hnb := nxN_bd l m c o i
      generalize hR : (rideO l c (m.getD (i : Int).toNat mv0).a).isSome = R at hs1 h154
      generalize hV : rideV l c (m.getD (i : Int).toNat mv0).a = V at hs1 h154
      by_cases hi2 : i < m.length
      · have hus := hus hi2
        rw [← hus] at hs1
        conv => whnf
        repeat' (first
          | (refine CallX.of h154 [(1000001, 10)] rfl ⟨SV.le_refl _, SV.le_refl _, SV.le_refl _, trivial⟩ ⟨Res.le_refl _, trivial⟩ rfl rfl ?_; rintro x rout ⟨rfl, rfl⟩; refine ⟨rfl, ?_⟩; conv => whnf)
          | (refine br_intro (fun hb => ?_) (fun hb => ?_) <;> (try simp only [decide_eq_true_eq, decide_eq_false_iff_not, Bool.not_eq_true', Bool.not_eq_false', Bool.and_eq_true, Bool.or_eq_true, beq_iff_eq, not_and, Int.not_le, Int.not_lt, Int.toNat_natCast, beq_eq_false_iff_ne, ne_eq, eq_self, not_true_eq_false, not_false_eq_true] at hb) <;> (conv => whnf))
          | omega
          | (refine And.intro ?_ ?_; ((try dsimp only); first | omega | (refine ⟨by omega, by omega, Int.le_trans (Int.mul_le_mul_of_nonneg_right (Int.ofNat_le.2 (Nat.le_of_ble_eq_true (rfl : Nat.ble _ 1024 = true))) (by omega)) (by omega), by omega⟩) | (refine Nat.le_trans (Nat.mul_le_mul_left _ (Nat.le_of_ble_eq_true (rfl : Nat.ble _ 1024 = true))) ?_; omega) | (unfold inI64; omega) | (constructor <;> omega) | (simp only [inI64, List.length_cons, List.length_append, List.length_nil, List.length_set] at *; omega) | decide | (unfold inI64; decide)); conv => whnf)
          | omega | decide | assumption)
        all_goals first
          | (refine ⟨i + 1, by omega, by omega, ?_⟩
             rw [hs1, if_pos (by clear hs1 hnb hus; simp only [e1] at *; grind)]
             exact Entails.mk' [(10, 10), (11, 11), (12, 12)] rfl rfl ⟨SV.le_refl _, SV.le_refl _, SV.le_refl _, SV.le_refl _, SV.le_refl _, SV.le_refl _, SV.le_refl _, SV.le_refl _, SV.le_refl _, SV.le_refl _, SV.le_refl _, SV.le_refl _, trivial⟩ ⟨Res.le_refl _, Res.le_refl _, Res.le_refl _, trivial⟩)
          | (refine ⟨i + 1, by omega, by omega, ?_⟩
             rw [hs1, if_neg (by clear hs1 hnb hus; simp only [e1] at *; grind)]
             exact Entails.mk' [(10, 10), (11, 11), (12, 12)] rfl rfl ⟨SV.le_refl _, SV.le_refl _, SV.le_refl _, SV.le_refl _, SV.le_refl _, SV.le_refl _, SV.le_refl _, SV.le_refl _, SV.le_refl _, SV.le_refl _, SV.le_refl _, SV.le_refl _, trivial⟩ ⟨Res.le_refl _, Res.le_refl _, Res.le_refl _, trivial⟩)
      · obtain rfl : i = m.length := by omega
        have hstuck := near_stuck p1 hi
        have hnext := nrS_next p1
        have hsn := partR_snoc l start m o (nxN l m c o m.length).1
        have hdead := fun h => near_dead (hnext h) (by omega)
        generalize nxN l m c o m.length = q at hnb hstuck hnext hsn hdead
        by_cases hq : q.1 < 0
        · have hnv : nearV l start m = ([], 0, false) := by unfold nearV; rw [hstuck hq]
          rw [hnv]
          conv => whnf
          repeat' (first
            | (refine br_intro (fun hb => ?_) (fun hb => ?_) <;> (try simp only [decide_eq_true_eq, decide_eq_false_iff_not, Bool.not_eq_true', Bool.not_eq_false', Bool.and_eq_true, Bool.or_eq_true, beq_iff_eq, not_and, Int.not_le, Int.not_lt, Int.toNat_natCast, beq_eq_false_iff_ne, ne_eq, eq_self, not_true_eq_false, not_false_eq_true] at hb) <;> (conv => whnf))
            | omega
            | (refine And.intro ?_ ?_; ((try dsimp only); first | omega | (refine ⟨by omega, by omega, Int.le_trans (Int.mul_le_mul_of_nonneg_right (Int.ofNat_le.2 (Nat.le_of_ble_eq_true (rfl : Nat.ble _ 1024 = true))) (by omega)) (by omega), by omega⟩) | (refine Nat.le_trans (Nat.mul_le_mul_left _ (Nat.le_of_ble_eq_true (rfl : Nat.ble _ 1024 = true))) ?_; omega) | (unfold inI64; omega) | (constructor <;> omega) | (simp only [inI64, List.length_cons, List.length_append, List.length_nil, List.length_set] at *; omega) | decide | (unfold inI64; decide)); conv => whnf)
            | omega | decide | assumption)
          all_goals try (exfalso; omega)
          all_goals
            first
              | (refine .ret _ ?_
                 conv => whnf
                 exact ⟨[], ⟨rfl, rfl⟩, trivial⟩)
              | (refine .weak _ ?_
                 conv => whnf
                 exact ⟨_, [], SV.le_tup (m := [_, _, _]) ⟨SV.le_nilS, SV.le_refl _, SV.le_refl _, trivial⟩, ⟨rfl, rfl⟩, trivial⟩)
        · have hnb2 : 0 ≤ q.1 ∧ q.1 < (m.length : Int) := by omega
          have hn := hnext hq
          have hdead := hdead hq
          have h153 := z153 l hl c (m.getD q.1.toNat mv0)
          have hmk := makeO_eq l c (m.getD q.1.toNat mv0)
          have hmb := rideV_bd hl c (m.getD q.1.toNat mv0).a
          have hmc := roadC_bd hl (m.getD q.1.toNat mv0).a (m.getD q.1.toNat mv0).b
          have hmv : makeV l c (m.getD q.1.toNat mv0) = rideV l c (m.getD q.1.toNat mv0).a + ((roadO l (m.getD q.1.toNat mv0).a (m.getD q.1.toNat mv0).b).getD rd0).car := rfl
          have hsn : partR l start m (o ++ [q.1]) = (makeO l c (m.getD q.1.toNat mv0)).map fun n => ((m.getD q.1.toNat mv0).b, s + n) := by rw [hsn, p3]; rfl
          have hmw := hmk.2
          clear hmk
          by_cases hM : makeO l c (m.getD q.1.toNat mv0) = none
          · rw [hM] at hsn h153
            have hnv : nearV l start m = ([], 0, false) := by unfold nearV; rw [hdead hsn]
            rw [hnv]
            conv => whnf
            repeat' (first
              | (refine CallX.of h153 [(1000001, 10)] rfl ⟨SV.le_refl _, SV.le_refl _, SV.le_refl _, trivial⟩ ⟨Res.le_refl _, trivial⟩ rfl rfl ?_; rintro x rout ⟨rfl, rfl⟩; refine ⟨rfl, ?_⟩; conv => whnf)
              | (refine br_intro (fun hb => ?_) (fun hb => ?_) <;> (try simp only [decide_eq_true_eq, decide_eq_false_iff_not, Bool.not_eq_true', Bool.not_eq_false', Bool.and_eq_true, Bool.or_eq_true, beq_iff_eq, not_and, Int.not_le, Int.not_lt, Int.toNat_natCast, beq_eq_false_iff_ne, ne_eq, eq_self, not_true_eq_false, not_false_eq_true] at hb) <;> (conv => whnf))
              | omega
              | (refine And.intro ?_ ?_; ((try dsimp only); first | omega | (refine ⟨by omega, by omega, Int.le_trans (Int.mul_le_mul_of_nonneg_right (Int.ofNat_le.2 (Nat.le_of_ble_eq_true (rfl : Nat.ble _ 1024 = true))) (by omega)) (by omega), by omega⟩) | (refine Nat.le_trans (Nat.mul_le_mul_left _ (Nat.le_of_ble_eq_true (rfl : Nat.ble _ 1024 = true))) ?_; omega) | (unfold inI64; omega) | (constructor <;> omega) | (simp only [inI64, List.length_cons, List.length_append, List.length_nil, List.length_set] at *; omega) | decide | (unfold inI64; decide)); conv => whnf)
              | omega | decide | assumption)
            all_goals try (exfalso; omega)
            all_goals
              first
                | (refine .ret _ ?_
                   conv => whnf
                   exact ⟨[], ⟨rfl, rfl⟩, trivial⟩)
                | (refine .weak _ ?_
                   conv => whnf
                   exact ⟨_, [], SV.le_tup (m := [_, _, _]) ⟨SV.le_nilS, SV.le_refl _, SV.le_refl _, trivial⟩, ⟨rfl, rfl⟩, trivial⟩)
          · obtain ⟨v, hv⟩ := Option.ne_none_iff_exists'.1 hM
            have hvv := hmw v hv
            rw [hv] at hsn h153
            conv => whnf
            repeat' (first
              | (refine CallX.of h153 [(1000001, 10)] rfl ⟨SV.le_refl _, SV.le_refl _, SV.le_refl _, trivial⟩ ⟨Res.le_refl _, trivial⟩ rfl rfl ?_; rintro x rout ⟨rfl, rfl⟩; refine ⟨rfl, ?_⟩; conv => whnf)
              | (refine br_intro (fun hb => ?_) (fun hb => ?_) <;> (try simp only [decide_eq_true_eq, decide_eq_false_iff_not, Bool.not_eq_true', Bool.not_eq_false', Bool.and_eq_true, Bool.or_eq_true, beq_iff_eq, not_and, Int.not_le, Int.not_lt, Int.toNat_natCast, beq_eq_false_iff_ne, ne_eq, eq_self, not_true_eq_false, not_false_eq_true] at hb) <;> (conv => whnf))
              | omega
              | (refine And.intro ?_ ?_; ((try dsimp only); first | omega | (refine ⟨by omega, by omega, Int.le_trans (Int.mul_le_mul_of_nonneg_right (Int.ofNat_le.2 (Nat.le_of_ble_eq_true (rfl : Nat.ble _ 1024 = true))) (by omega)) (by omega), by omega⟩) | (refine Nat.le_trans (Nat.mul_le_mul_left _ (Nat.le_of_ble_eq_true (rfl : Nat.ble _ 1024 = true))) ?_; omega) | (unfold inI64; omega) | (constructor <;> omega) | (simp only [inI64, List.length_cons, List.length_append, List.length_nil, List.length_set] at *; omega) | decide | (unfold inI64; decide)); conv => whnf)
              | omega | decide | assumption)
            all_goals first
              | (exfalso; omega)
              | (refine ⟨((m.getD q.1.toNat mv0).b, o ++ [q.1], s + v), ⟨⟨by rw [List.length_append]; exact hn, hsn⟩, by rw [List.length_append]; simp; omega⟩, (show m.length - (o ++ [q.1]).length < m.length - o.length by rw [List.length_append]; simp; omega), ?_⟩
                 show Entails _ (mkSt _ [(10, netG l), (11, seqB 4 1 bF false (usedO m.length (o ++ [q.1]))), (12, inB (o ++ [q.1]))])
                 rw [← usedO_snoc hnb2.1 hnb2.2]
                 exact Entails.mk' [(10, 10), (11, 11), (12, 97)] rfl rfl ⟨SV.le_refl _, SV.le_refl _, SV.le_refl _, SV.le_refl _, SV.le_refl _, SV.le_refl _, SV.le_int (by omega), trivial⟩ ⟨Res.le_refl _, Res.le_upd (fun _ => true) (fun _ => rfl), Res.le_snocF rfl, trivial⟩)
    · have hlen : o.length = m.length := by omega
      rw [hlen] at p1
      have hro : roundO l start m o = (rideO l c start).map fun n => s + n := by unfold roundO; rw [p3]; rfl
      have hno : nearO l start m = (roundO l start m o).map fun v => (o, v) := by unfold nearO; rw [p1]; rfl
      have h154 := z154 l c start
      have hrb := rideV_bd hl c start
      cases hR : rideO l c start with
      | none =>
        have hnv : nearV l start m = ([], 0, false) := by unfold nearV; rw [hno, hro, hR]; rfl
        rw [hnv]
        rw [hR] at h154
        conv => whnf
        repeat' (first
          | (refine CallX.of h154 [(1000001, 10)] rfl ⟨SV.le_refl _, SV.le_refl _, SV.le_refl _, trivial⟩ ⟨Res.le_refl _, trivial⟩ rfl rfl ?_; rintro x rout ⟨rfl, rfl⟩; refine ⟨rfl, ?_⟩; conv => whnf)
          | (refine br_intro (fun hb => ?_) (fun hb => ?_) <;> (try simp only [decide_eq_true_eq, decide_eq_false_iff_not, Bool.not_eq_true', Bool.not_eq_false', Bool.and_eq_true, Bool.or_eq_true, beq_iff_eq, not_and, Int.not_le, Int.not_lt, Int.toNat_natCast, beq_eq_false_iff_ne, ne_eq, eq_self, not_true_eq_false, not_false_eq_true] at hb) <;> (conv => whnf))
          | omega
          | (refine And.intro ?_ ?_; ((try dsimp only); first | omega | (refine ⟨by omega, by omega, Int.le_trans (Int.mul_le_mul_of_nonneg_right (Int.ofNat_le.2 (Nat.le_of_ble_eq_true (rfl : Nat.ble _ 1024 = true))) (by omega)) (by omega), by omega⟩) | (refine Nat.le_trans (Nat.mul_le_mul_left _ (Nat.le_of_ble_eq_true (rfl : Nat.ble _ 1024 = true))) ?_; omega) | (unfold inI64; omega) | (constructor <;> omega) | (simp only [inI64, List.length_cons, List.length_append, List.length_nil, List.length_set] at *; omega) | decide | (unfold inI64; decide)); conv => whnf)
          | omega | decide | assumption)
        all_goals try (exfalso; omega)
        all_goals
          first
            | (refine .ret _ ?_
               conv => whnf
               exact ⟨[], ⟨rfl, rfl⟩, trivial⟩)
            | (refine .weak _ ?_
               conv => whnf
               exact ⟨_, [], SV.le_tup (m := [_, _, _]) ⟨SV.le_nilS, SV.le_refl _, SV.le_refl _, trivial⟩, ⟨rfl, rfl⟩, trivial⟩)
      | some n =>
        have hrv : rideV l c start = n := by unfold rideV; rw [hR]; rfl
        have hnv : nearV l start m = (o, s + n, true) := by unfold nearV; rw [hno, hro, hR]; rfl
        rw [hnv]
        rw [hR, hrv] at h154
        rw [hrv] at hrb
        conv => whnf
        repeat' (first
          | (refine CallX.of h154 [(1000001, 10)] rfl ⟨SV.le_refl _, SV.le_refl _, SV.le_refl _, trivial⟩ ⟨Res.le_refl _, trivial⟩ rfl rfl ?_; rintro x rout ⟨rfl, rfl⟩; refine ⟨rfl, ?_⟩; conv => whnf)
          | (refine br_intro (fun hb => ?_) (fun hb => ?_) <;> (try simp only [decide_eq_true_eq, decide_eq_false_iff_not, Bool.not_eq_true', Bool.not_eq_false', Bool.and_eq_true, Bool.or_eq_true, beq_iff_eq, not_and, Int.not_le, Int.not_lt, Int.toNat_natCast, beq_eq_false_iff_ne, ne_eq, eq_self, not_true_eq_false, not_false_eq_true] at hb) <;> (conv => whnf))
          | omega
          | (refine And.intro ?_ ?_; ((try dsimp only); first | omega | (refine ⟨by omega, by omega, Int.le_trans (Int.mul_le_mul_of_nonneg_right (Int.ofNat_le.2 (Nat.le_of_ble_eq_true (rfl : Nat.ble _ 1024 = true))) (by omega)) (by omega), by omega⟩) | (refine Nat.le_trans (Nat.mul_le_mul_left _ (Nat.le_of_ble_eq_true (rfl : Nat.ble _ 1024 = true))) ?_; omega) | (unfold inI64; omega) | (constructor <;> omega) | (simp only [inI64, List.length_cons, List.length_append, List.length_nil, List.length_set] at *; omega) | decide | (unfold inI64; decide)); conv => whnf)
          | omega | decide | assumption)
        all_goals first
          | (exfalso; omega)
          | (refine .freeze _ 12 3 1 _ _ rfl (.weak _ ?_)
             conv => whnf
             exact ⟨_, [], SV.le_refl _, ⟨rfl, rfl⟩, trivial⟩)
  · rw [if_pos hd]
    generalize drvE l start m = e at h134 hd
    refine spec_of hT (C := []) Tryz.func56 rfl Tryz.call56 rfl rfl rfl ?_
    conv => whnf
    repeat' (first
      | (refine CallX.exact (h134) rfl rfl ?_; rotate_right; conv => whnf)
      | (refine br_intro (fun hb => ?_) (fun hb => ?_) <;> (try simp only [decide_eq_true_eq, decide_eq_false_iff_not, Bool.not_eq_true', Bool.not_eq_false', Bool.and_eq_true, Bool.or_eq_true, beq_iff_eq, not_and, Int.not_le, Int.not_lt, Int.toNat_natCast, beq_eq_false_iff_ne, ne_eq, eq_self, not_true_eq_false, not_false_eq_true] at hb) <;> (conv => whnf))
      | omega
      | (refine And.intro ?_ ?_; ((try dsimp only); first | omega | (refine ⟨by omega, by omega, Int.le_trans (Int.mul_le_mul_of_nonneg_right (Int.ofNat_le.2 (Nat.le_of_ble_eq_true (rfl : Nat.ble _ 1024 = true))) (by omega)) (by omega), by omega⟩) | (refine Nat.le_trans (Nat.mul_le_mul_left _ (Nat.le_of_ble_eq_true (rfl : Nat.ble _ 1024 = true))) ?_; omega) | (unfold inI64; omega) | (constructor <;> omega) | (simp only [inI64, List.length_cons, List.length_append, List.length_nil, List.length_set] at *; omega) | decide | (unfold inI64; decide)); conv => whnf)
      | omega | decide | assumption)
    refine .ret _ ?_
    conv => whnf
    refine ⟨[], ⟨congrArg SV.tup ?_, rfl⟩, trivial⟩
    repeat' (refine cons_eq ?_ ?_)
    all_goals (conv => lhs; whnf)
    all_goals try (with_reducible rfl)
    all_goals rfl
end Go.Proofs.YtnkdlkgannnfhaaGreatDoor
set_option maxRecDepth 20000
namespace Go.Proofs.YtnkdlkgannnfhaaGreatDoor
open Go Go.Eng
def ordE (n : Nat) (o : List Int) (i : Nat) : Int := if ¬ (0 ≤ o.getD i 0 ∧ o.getD i 0 ≤ (n : Int) - 1) then 8 else if (o.take i).contains (o.getD i 0) = true then 6 else 0
def rcE (l : List Roa) (start : List UInt8) (m : List Mov) (o : List Int) : Int :=
  if drvE l start m ≠ 0 then drvE l start m else if o.length ≠ m.length then 3 else if firstAt (ordE m.length o) o.length ≠ 0 then firstAt (ordE m.length o) o.length else if (roundO l start m o).isSome = true then 0 else 8
theorem ordE_ok {n : Nat} {o : List Int} (h : ∀ j, j < o.length → ordE n o j = 0) : ordOk n o := fun x hx => by
  obtain ⟨j, hj, rfl⟩ := List.mem_iff_getElem.1 hx
  have := h j hj
  unfold ordE at this
  rw [show o.getD j 0 = o[j] by rw [List.getD_eq_getElem?_getD, List.getElem?_eq_getElem hj]; rfl] at this
  split at this
  · cases this
  · omega
-- shift.RoundCost
set_option maxHeartbeats 4000000 in
theorem z55 (l : List Roa) (start : List UInt8) (m : List Mov) (o : List Int) (hrl : rdOk l) (hs : start.length ≤ 2^40) (hml : mvOk m) (hm : m.length ≤ 1000) (ho : o.length ≤ 1001) :
    FSpec Tryz.prog 55 [.d (roas l), .d (.str start), .d (movs m), .d (ints o)] [] (fun y r => y = .tup [.d (.int .i64 (if rcE l start m o = 0 then (roundO l start m o).getD 0 else 0)), .d (.int .i64 (rcE l start m o))] ∧ r = []) := by
  have h134 := z134 l start m hrl hs hml
  have h107 : FSpec Tryz.prog 121 [.d (.bool (!decide ((o.length : Int) = (m.length : Int)))), .d (.int .i64 3)] [] (fun x r => x = .d (.int .i64 (if o.length = m.length then 0 else 3)) ∧ r = []) := by
    have h := s107 (!decide ((o.length : Int) = (m.length : Int))) 3
    by_cases e : o.length = m.length
    · rw [if_pos e]; rw [decide_eq_true (by omega)] at h ⊢; exact h
    · rw [if_neg e]; rw [decide_eq_false (by omega)] at h ⊢; exact h
  have h105 := s105 [drvE l start m, if o.length = m.length then 0 else 3] (by simp)
  by_cases hE : drvE l start m = 0 ∧ o.length = m.length
  · obtain ⟨hd, hlen⟩ := hE
    rw [show firstE [drvE l start m, if o.length = m.length then 0 else 3] = 0 from by rw [hd, if_pos hlen]; rfl] at h105
    have hrc : rcE l start m o = if firstAt (ordE m.length o) o.length ≠ 0 then firstAt (ordE m.length o) o.length else if (roundO l start m o).isSome = true then 0 else 8 := by
      unfold rcE; rw [if_neg (by omega), if_neg (by omega)]
    rw [hrc]
    obtain ⟨hl, _, _⟩ := drvE_zero hd
    have hl2 := (rds_all hl).1
    have h117 := z117 l hl
    refine spec_of hT (C := []) Tryz.func55 rfl Tryz.call55 rfl rfl rfl ?_
    conv => whnf
    repeat' (first
      | (refine CallX.exact (h134) rfl rfl ?_; rotate_right; conv => whnf)
      | (refine CallX.exact (h107) rfl rfl ?_; rotate_right; conv => whnf)
      | (refine CallX.pure h105 ⟨SV.le_lit (by rfl) (by rfl), trivial⟩ rfl ?_; conv => whnf)
      | (refine br_intro (fun hb => ?_) (fun hb => ?_) <;> (try simp only [decide_eq_true_eq, decide_eq_false_iff_not, Bool.not_eq_true', Bool.not_eq_false', Bool.and_eq_true, Bool.or_eq_true, beq_iff_eq, not_and, Int.not_le, Int.not_lt, Int.toNat_natCast, beq_eq_false_iff_ne, ne_eq, eq_self, not_true_eq_false, not_false_eq_true] at hb) <;> (conv => whnf))
      | omega
      | (refine And.intro ?_ ?_; ((try dsimp only); first | omega | (refine ⟨by omega, by omega, Int.le_trans (Int.mul_le_mul_of_nonneg_right (Int.ofNat_le.2 (Nat.le_of_ble_eq_true (rfl : Nat.ble _ 1024 = true))) (by omega)) (by omega), by omega⟩) | (refine Nat.le_trans (Nat.mul_le_mul_left _ (Nat.le_of_ble_eq_true (rfl : Nat.ble _ 1024 = true))) ?_; omega) | (unfold inI64; omega) | (constructor <;> omega) | (simp only [inI64, List.length_cons, List.length_append, List.length_nil, List.length_set] at *; omega) | decide | (unfold inI64; decide)); conv => whnf)
      | omega | decide | assumption)
    refine LoopX.rule hT (C := []) (ι := Nat) (fun i => i ≤ o.length ∧ ∀ j, j < i → ordE m.length o j = 0) (fun i => mkSt [(0, .d (roas l)), (1, .d (.str start)), (2, .d (movs m)), (3, .d (ints o)), (37, .d (ints o)), (38, .d (.int .i64 o.length)), (39, .d (.int .i64 i))] []) (fun i => o.length - i) 0 ⟨by omega, by omega⟩ (by (refine Entails.mk' [] rfl rfl ?_ ?_ <;> repeat' (first | exact True.intro | exact SV.le_refl _ | exact Res.le_refl _ | exact SV.le_int (by omega) | exact SV.le_any _ | refine And.intro ?_ ?_)); done) ?_
    rintro i ⟨p1, p2⟩
    have e1 : (i : Int).toNat = i := Int.toNat_natCast i
    have hbad : ∀ e : Int, i < o.length → e ≠ 0 → ordE m.length o i = e → firstAt (ordE m.length o) o.length = e := fun e h h1 h2 => firstAt_eq h p2 h1 h2
    have h57 := z57 (o.take i) (by rw [List.length_take]; omega) (o.getD (i : Int).toNat 0)
    by_cases hi : i < o.length
    · conv => whnf
      repeat' (first
        | (refine CallX.exact (s119 _ _ _) rfl rfl ?_; rotate_right; conv => whnf)
        | (refine CallX.pure h57 ⟨SV.le_takeP (m := i) (by omega) (by omega) (fun j hj => by rw [show Int.toNat 0 + j = j by simp]), SV.le_refl _, trivial⟩ rfl ?_; conv => whnf)
        | (refine br_intro (fun hb => ?_) (fun hb => ?_) <;> (try simp only [decide_eq_true_eq, decide_eq_false_iff_not, Bool.not_eq_true', Bool.not_eq_false', Bool.and_eq_true, Bool.or_eq_true, beq_iff_eq, not_and, Int.not_le, Int.not_lt, Int.toNat_natCast, beq_eq_false_iff_ne, ne_eq, eq_self, not_true_eq_false, not_false_eq_true] at hb) <;> (conv => whnf))
        | omega
        | (refine And.intro ?_ ?_; ((try dsimp only); first | omega | (refine ⟨by omega, by omega, Int.le_trans (Int.mul_le_mul_of_nonneg_right (Int.ofNat_le.2 (Nat.le_of_ble_eq_true (rfl : Nat.ble _ 1024 = true))) (by omega)) (by omega), by omega⟩) | (refine Nat.le_trans (Nat.mul_le_mul_left _ (Nat.le_of_ble_eq_true (rfl : Nat.ble _ 1024 = true))) ?_; omega) | (unfold inI64; omega) | (constructor <;> omega) | (simp only [inI64, List.length_cons, List.length_append, List.length_nil, List.length_set] at *; omega) | decide | (unfold inI64; decide)); conv => whnf)
        | omega | decide | assumption)
      all_goals first
        | (refine ⟨i + 1, ⟨by omega, first_step p2 (by clear p2 hbad h57 h134 h107 h105 h117; simp only [e1] at *; unfold ordE; grind)⟩, by omega, (by (refine Entails.mk' [] rfl rfl ?_ ?_ <;> repeat' (first | exact True.intro | exact SV.le_refl _ | exact Res.le_refl _ | exact SV.le_int (by omega) | exact SV.le_any _ | refine And.intro ?_ ?_)); done)⟩)
        | (have hq : firstAt (ordE m.length o) o.length = 8 := hbad 8 hi (by decide) (by clear p2 hbad h57 h134 h107 h105 h117; simp only [e1] at *; unfold ordE; grind)
           rw [hq]
           refine .ret _ ?_
           conv => whnf
           exact ⟨[], ⟨rfl, rfl⟩, trivial⟩)
        | (have hq : firstAt (ordE m.length o) o.length = 6 := hbad 6 hi (by decide) (by clear p2 hbad h57 h134 h107 h105 h117; simp only [e1] at *; unfold ordE; grind)
           rw [hq]
           refine .ret _ ?_
           conv => whnf
           exact ⟨[], ⟨rfl, rfl⟩, trivial⟩)
    · obtain rfl : i = o.length := by omega
      have hz : firstAt (ordE m.length o) o.length = 0 := firstAt_zero p2
      have hook := ordE_ok p2
      have hq : (if firstAt (ordE m.length o) o.length ≠ 0 then firstAt (ordE m.length o) o.length else if (roundO l start m o).isSome = true then 0 else 8) = (if (roundO l start m o).isSome = true then (0 : Int) else 8) := by rw [if_neg (by omega)]
      rw [hq]
      conv => whnf
      repeat' (first
        | (refine CallX.of h117 [(3, 59)] rfl ⟨SV.le_refl _, trivial⟩ trivial rfl rfl ?_; rintro x rout ⟨rfl, rfl⟩; refine ⟨rfl, ?_⟩; conv => whnf)
        | (refine br_intro (fun hb => ?_) (fun hb => ?_) <;> (try simp only [decide_eq_true_eq, decide_eq_false_iff_not, Bool.not_eq_true', Bool.not_eq_false', Bool.and_eq_true, Bool.or_eq_true, beq_iff_eq, not_and, Int.not_le, Int.not_lt, Int.toNat_natCast, beq_eq_false_iff_ne, ne_eq, eq_self, not_true_eq_false, not_false_eq_true] at hb) <;> (conv => whnf))
        | omega
        | (refine And.intro ?_ ?_; ((try dsimp only); first | omega | (refine ⟨by omega, by omega, Int.le_trans (Int.mul_le_mul_of_nonneg_right (Int.ofNat_le.2 (Nat.le_of_ble_eq_true (rfl : Nat.ble _ 1024 = true))) (by omega)) (by omega), by omega⟩) | (refine Nat.le_trans (Nat.mul_le_mul_left _ (Nat.le_of_ble_eq_true (rfl : Nat.ble _ 1024 = true))) ?_; omega) | (unfold inI64; omega) | (constructor <;> omega) | (simp only [inI64, List.length_cons, List.length_append, List.length_nil, List.length_set] at *; omega) | decide | (unfold inI64; decide)); conv => whnf)
        | omega | decide | assumption)
      refine LoopX.rule hT (C := []) (ι := Nat × List UInt8 × Int) (fun (i, c, s) => i ≤ o.length ∧ partR l start m (o.take i) = some (c, s))
        (fun (i, c, s) => mkSt [(1, .d (.str start)), (2, .d (movs m)), (13, .mp 13), (14, .d (.str c)), (15, .d (.int .i64 s)), (61, .d (ints o)), (62, .d (.int .i64 o.length)), (63, .d (.int .i64 i))] [(13, netG l)]) (fun (i, _, _) => o.length - i) (0, start, 0) ⟨by simp, by simp [partR]⟩ (by (refine Entails.mk' [(13, 59)] rfl rfl ?_ ?_ <;> repeat' (first | exact True.intro | exact SV.le_refl _ | exact Res.le_refl _ | exact SV.le_int (by omega) | exact SV.le_any _ | refine And.intro ?_ ?_)); done) ?_
      rintro ⟨i, c, s⟩ ⟨r1, r2⟩
      have r1 : i ≤ o.length := r1
      have e1 : (i : Int).toNat = i := Int.toNat_natCast i
      have hsb := partR_bd (start := start) hl _ _ _ r2
      simp only [List.length_take] at hsb
      by_cases hi : i < o.length
      · have hk := hook (o.getD i 0) (getD_mem hi)
        have hk2 : 0 ≤ o.getD (i : Int).toNat 0 ∧ o.getD (i : Int).toNat 0 < (m.length : Int) := hk
        have hb1 := rideV_bd hl c (m.getD (o.getD (i : Int).toNat 0).toNat mv0).a
        have hb2 := roadC_bd hl (m.getD (o.getD (i : Int).toNat 0).toNat mv0).a (m.getD (o.getD (i : Int).toNat 0).toNat mv0).b
        have hmv : makeV l c (m.getD (o.getD (i : Int).toNat 0).toNat mv0) = rideV l c (m.getD (o.getD (i : Int).toNat 0).toNat mv0).a + ((roadO l (m.getD (o.getD (i : Int).toNat 0).toNat mv0).a (m.getD (o.getD (i : Int).toNat 0).toNat mv0).b).getD rd0).car := rfl
        have hmw := (makeO_eq l c (m.getD (o.getD (i : Int).toNat 0).toNat mv0)).2
        have h153 := z153 l hl c (m.getD (o.getD (i : Int).toNat 0).toNat mv0)
        have hn : partR l start m (o.take (i + 1)) = (makeO l c (m.getD (o.getD (i : Int).toNat 0).toNat mv0)).map fun n => ((m.getD (o.getD i 0).toNat mv0).b, s + n) := by
          rw [List.take_add_one, List.getElem?_eq_getElem hi]
          simp only [Option.toList]
          rw [partR_snoc, r2]
          have : o.getD (i : Int).toNat 0 = o[i] := by rw [e1, List.getD_eq_getElem?_getD, List.getElem?_eq_getElem hi]; rfl
          have h2 : o.getD i 0 = o[i] := this
          rw [this, h2]
          rfl
        by_cases hM : makeO l c (m.getD (o.getD (i : Int).toNat 0).toNat mv0) = none
        · rw [hM] at hn h153
          have hro : roundO l start m o = none := by
            have h2 := partR_app (t := o.drop (i + 1)) hn
            rw [List.take_append_drop] at h2
            unfold roundO; rw [h2]; rfl
          rw [hro]
          conv => whnf
          repeat' (first
            | (refine CallX.of h153 [(1000001, 13)] rfl ⟨SV.le_refl _, SV.le_refl _, SV.le_refl _, trivial⟩ ⟨Res.le_refl _, trivial⟩ rfl rfl ?_; rintro x rout ⟨rfl, rfl⟩; refine ⟨rfl, ?_⟩; conv => whnf)
            | (refine br_intro (fun hb => ?_) (fun hb => ?_) <;> (try simp only [decide_eq_true_eq, decide_eq_false_iff_not, Bool.not_eq_true', Bool.not_eq_false', Bool.and_eq_true, Bool.or_eq_true, beq_iff_eq, not_and, Int.not_le, Int.not_lt, Int.toNat_natCast, beq_eq_false_iff_ne, ne_eq, eq_self, not_true_eq_false, not_false_eq_true] at hb) <;> (conv => whnf))
            | omega
            | (refine And.intro ?_ ?_; ((try dsimp only); first | omega | (refine ⟨by omega, by omega, Int.le_trans (Int.mul_le_mul_of_nonneg_right (Int.ofNat_le.2 (Nat.le_of_ble_eq_true (rfl : Nat.ble _ 1024 = true))) (by omega)) (by omega), by omega⟩) | (refine Nat.le_trans (Nat.mul_le_mul_left _ (Nat.le_of_ble_eq_true (rfl : Nat.ble _ 1024 = true))) ?_; omega) | (unfold inI64; omega) | (constructor <;> omega) | (simp only [inI64, List.length_cons, List.length_append, List.length_nil, List.length_set] at *; omega) | decide | (unfold inI64; decide)); conv => whnf)
            | omega | decide | assumption)
          refine .ret _ ?_
          conv => whnf
          exact ⟨[], ⟨rfl, rfl⟩, trivial⟩
        · obtain ⟨v, hv⟩ := Option.ne_none_iff_exists'.1 hM
          have hvv := hmw v hv
          rw [hv] at hn h153
          conv => whnf
          repeat' (first
            | (refine CallX.of h153 [(1000001, 13)] rfl ⟨SV.le_refl _, SV.le_refl _, SV.le_refl _, trivial⟩ ⟨Res.le_refl _, trivial⟩ rfl rfl ?_; rintro x rout ⟨rfl, rfl⟩; refine ⟨rfl, ?_⟩; conv => whnf)
            | (refine br_intro (fun hb => ?_) (fun hb => ?_) <;> (try simp only [decide_eq_true_eq, decide_eq_false_iff_not, Bool.not_eq_true', Bool.not_eq_false', Bool.and_eq_true, Bool.or_eq_true, beq_iff_eq, not_and, Int.not_le, Int.not_lt, Int.toNat_natCast, beq_eq_false_iff_ne, ne_eq, eq_self, not_true_eq_false, not_false_eq_true] at hb) <;> (conv => whnf))
            | omega
            | (refine And.intro ?_ ?_; ((try dsimp only); first | omega | (refine ⟨by omega, by omega, Int.le_trans (Int.mul_le_mul_of_nonneg_right (Int.ofNat_le.2 (Nat.le_of_ble_eq_true (rfl : Nat.ble _ 1024 = true))) (by omega)) (by omega), by omega⟩) | (refine Nat.le_trans (Nat.mul_le_mul_left _ (Nat.le_of_ble_eq_true (rfl : Nat.ble _ 1024 = true))) ?_; omega) | (unfold inI64; omega) | (constructor <;> omega) | (simp only [inI64, List.length_cons, List.length_append, List.length_nil, List.length_set] at *; omega) | decide | (unfold inI64; decide)); conv => whnf)
            | omega | decide | assumption)
          exact ⟨(i + 1, (m.getD (o.getD i 0).toNat mv0).b, s + v), ⟨by omega, hn⟩, (show o.length - (i + 1) < o.length - i by omega), Entails.mk' [(13, 13)] rfl rfl ⟨SV.le_refl _, SV.le_refl _, SV.le_refl _, SV.le_refl _, SV.le_int (by omega), SV.le_refl _, SV.le_refl _, SV.le_refl _, trivial⟩ ⟨Res.le_refl _, trivial⟩⟩
      · obtain rfl : i = o.length := by omega
        rw [List.take_length] at r2
        have hro : roundO l start m o = (rideO l c start).map fun n => s + n := by unfold roundO; rw [r2]; rfl
        have h154 := z154 l c start
        have hrb := rideV_bd hl c start
        cases hR : rideO l c start with
        | none =>
          rw [hro, hR]
          rw [hR] at h154
          conv => whnf
          repeat' (first
            | (refine CallX.of h154 [(1000001, 13)] rfl ⟨SV.le_refl _, SV.le_refl _, SV.le_refl _, trivial⟩ ⟨Res.le_refl _, trivial⟩ rfl rfl ?_; rintro x rout ⟨rfl, rfl⟩; refine ⟨rfl, ?_⟩; conv => whnf)
            | (refine br_intro (fun hb => ?_) (fun hb => ?_) <;> (try simp only [decide_eq_true_eq, decide_eq_false_iff_not, Bool.not_eq_true', Bool.not_eq_false', Bool.and_eq_true, Bool.or_eq_true, beq_iff_eq, not_and, Int.not_le, Int.not_lt, Int.toNat_natCast, beq_eq_false_iff_ne, ne_eq, eq_self, not_true_eq_false, not_false_eq_true] at hb) <;> (conv => whnf))
            | omega
            | (refine And.intro ?_ ?_; ((try dsimp only); first | omega | (refine ⟨by omega, by omega, Int.le_trans (Int.mul_le_mul_of_nonneg_right (Int.ofNat_le.2 (Nat.le_of_ble_eq_true (rfl : Nat.ble _ 1024 = true))) (by omega)) (by omega), by omega⟩) | (refine Nat.le_trans (Nat.mul_le_mul_left _ (Nat.le_of_ble_eq_true (rfl : Nat.ble _ 1024 = true))) ?_; omega) | (unfold inI64; omega) | (constructor <;> omega) | (simp only [inI64, List.length_cons, List.length_append, List.length_nil, List.length_set] at *; omega) | decide | (unfold inI64; decide)); conv => whnf)
            | omega | decide | assumption)
          refine .ret _ ?_
          conv => whnf
          exact ⟨[], ⟨rfl, rfl⟩, trivial⟩
        | some n =>
          have hrv : rideV l c start = n := by unfold rideV; rw [hR]; rfl
          rw [hro, hR]
          simp only [Option.map_some, Option.isSome_some, if_true, Option.getD_some]
          rw [hR, hrv] at h154
          rw [hrv] at hrb
          conv => whnf
          repeat' (first
            | (refine CallX.of h154 [(1000001, 13)] rfl ⟨SV.le_refl _, SV.le_refl _, SV.le_refl _, trivial⟩ ⟨Res.le_refl _, trivial⟩ rfl rfl ?_; rintro x rout ⟨rfl, rfl⟩; refine ⟨rfl, ?_⟩; conv => whnf)
            | (refine br_intro (fun hb => ?_) (fun hb => ?_) <;> (try simp only [decide_eq_true_eq, decide_eq_false_iff_not, Bool.not_eq_true', Bool.not_eq_false', Bool.and_eq_true, Bool.or_eq_true, beq_iff_eq, not_and, Int.not_le, Int.not_lt, Int.toNat_natCast, beq_eq_false_iff_ne, ne_eq, eq_self, not_true_eq_false, not_false_eq_true] at hb) <;> (conv => whnf))
            | omega
            | (refine And.intro ?_ ?_; ((try dsimp only); first | omega | (refine ⟨by omega, by omega, Int.le_trans (Int.mul_le_mul_of_nonneg_right (Int.ofNat_le.2 (Nat.le_of_ble_eq_true (rfl : Nat.ble _ 1024 = true))) (by omega)) (by omega), by omega⟩) | (refine Nat.le_trans (Nat.mul_le_mul_left _ (Nat.le_of_ble_eq_true (rfl : Nat.ble _ 1024 = true))) ?_; omega) | (unfold inI64; omega) | (constructor <;> omega) | (simp only [inI64, List.length_cons, List.length_append, List.length_nil, List.length_set] at *; omega) | decide | (unfold inI64; decide)); conv => whnf)
            | omega | decide | assumption)
          refine .ret _ ?_
          conv => whnf
          exact ⟨[], ⟨rfl, rfl⟩, trivial⟩
  · have hrc : rcE l start m o = firstE [drvE l start m, if o.length = m.length then 0 else 3] ∧ rcE l start m o ≠ 0 := by
      unfold rcE
      simp only [firstE]
      grind
    rw [hrc.1]
    have hne := hrc.2
    rw [hrc.1] at hne
    generalize firstE [drvE l start m, if o.length = m.length then 0 else 3] = e at h105 hne
    rw [if_neg hne]
    refine spec_of hT (C := []) Tryz.func55 rfl Tryz.call55 rfl rfl rfl ?_
    conv => whnf
    repeat' (first
      | (refine CallX.exact (h134) rfl rfl ?_; rotate_right; conv => whnf)
      | (refine CallX.exact (h107) rfl rfl ?_; rotate_right; conv => whnf)
      | (refine CallX.pure h105 ⟨SV.le_lit (by rfl) (by rfl), trivial⟩ rfl ?_; conv => whnf)
      | (refine br_intro (fun hb => ?_) (fun hb => ?_) <;> (try simp only [decide_eq_true_eq, decide_eq_false_iff_not, Bool.not_eq_true', Bool.not_eq_false', Bool.and_eq_true, Bool.or_eq_true, beq_iff_eq, not_and, Int.not_le, Int.not_lt, Int.toNat_natCast, beq_eq_false_iff_ne, ne_eq, eq_self, not_true_eq_false, not_false_eq_true] at hb) <;> (conv => whnf))
      | omega
      | (refine And.intro ?_ ?_; ((try dsimp only); first | omega | (refine ⟨by omega, by omega, Int.le_trans (Int.mul_le_mul_of_nonneg_right (Int.ofNat_le.2 (Nat.le_of_ble_eq_true (rfl : Nat.ble _ 1024 = true))) (by omega)) (by omega), by omega⟩) | (refine Nat.le_trans (Nat.mul_le_mul_left _ (Nat.le_of_ble_eq_true (rfl : Nat.ble _ 1024 = true))) ?_; omega) | (unfold inI64; omega) | (constructor <;> omega) | (simp only [inI64, List.length_cons, List.length_append, List.length_nil, List.length_set] at *; omega) | decide | (unfold inI64; decide)); conv => whnf)
      | omega | decide | assumption)
    refine .ret _ ?_
    conv => whnf
    refine ⟨[], ⟨congrArg SV.tup ?_, rfl⟩, trivial⟩
    repeat' (refine cons_eq ?_ ?_)
    all_goals (conv => lhs; whnf)
    all_goals try (with_reducible rfl)
    all_goals rfl
end Go.Proofs.YtnkdlkgannnfhaaGreatDoor
set_option maxRecDepth 20000
namespace Go.Proofs.YtnkdlkgannnfhaaGreatDoor
open Go Go.Eng
-- Order
theorem sOrd (n : Nat) (L : Nat → Int) (hL : Rok n L) (a : Int) (h0 : 0 ≤ a) (ha : a ≤ 2^38) (q : Nat) (hq : q ≤ 1000) :
    FSpec Tryz.prog 54 [.ptr 1000000 0, .d (.int .i64 q)] [(1000000, strm n L a)] (fun y r => ∃ o b, o.length = q ∧ a ≤ b ∧ b ≤ a + q + 1 ∧ y = .buf 5 ∧ r = [(1000000, strm n L b), (5, inB o)]) := by
  refine spec_of hT (C := []) Tryz.func54 rfl Tryz.call54 rfl rfl rfl ?_
  conv => whnf
  refine LoopX.rule hT (C := []) (ι := Nat × List Int) (fun (i, o) => i ≤ q ∧ o.length = i)
    (fun (i, o) => mkSt [(0, .ptr 1000000 0), (1, .d (.int .i64 q)), (5, .buf 5), (9, .d (.int .i64 q)), (10, .d (.int .i64 i))] [(1000000, strm n L a), (5, inB o)]) (fun (i, _) => q - i) (0, []) ⟨by simp, rfl⟩ ?_ ?_
  · exact (Entails.nil 5 5 3 1 (rowF iF 0 []) rfl rfl (by decide)).trans (by (refine Entails.mk' [(1000000, 1000000), (5, 5)] rfl rfl ?_ ?_ <;> repeat' (first | exact True.intro | exact SV.le_refl _ | exact Res.le_refl _ | exact SV.le_int (by omega) | exact SV.le_any _ | refine And.intro ?_ ?_)); done)
  rintro ⟨i, o⟩ ⟨p1, p2⟩
  have p1 : i ≤ q := p1
  have p2 : o.length = i := p2
  conv => whnf
  repeat' (first
    | (refine br_intro (fun hb => ?_) (fun hb => ?_) <;> (try simp only [decide_eq_true_eq, decide_eq_false_iff_not, Bool.not_eq_true', Bool.not_eq_false', Bool.and_eq_true, Bool.or_eq_true, beq_iff_eq, not_and, Int.not_le, Int.not_lt, Int.toNat_natCast, beq_eq_false_iff_ne, ne_eq, eq_self, not_true_eq_false, not_false_eq_true] at hb) <;> (conv => whnf))
    | (refine RegX.rule (id := 11) hT rfl [] [(0, []), (1, [0]), (2, [0, 1]), (3, [0, 1, 2]), (4, [0, 1, 2, 3]), (5, [0, 1, 2, 3, 4]), (6, [0, 1, 2, 3]), (7, [0, 1, 2, 3]), (8, [0, 1, 2, 3, 4, 5, 6, 7]), (9, [0, 1, 2, 3, 4, 5, 6, 7, 8]), (10, [0, 1, 2, 3, 4, 5, 6, 7]), (11, [0, 1, 2, 3, 4, 5, 6, 7]), (12, [2, 3]), (13, [2, 3]), (14, []), (15, [])] (by decide +kernel) ?_; conv => whnf)
    | omega
    | (refine And.intro ?_ ?_; ((try dsimp only); first | omega | (refine ⟨by omega, by omega, Int.le_trans (Int.mul_le_mul_of_nonneg_right (Int.ofNat_le.2 (Nat.le_of_ble_eq_true (rfl : Nat.ble _ 1024 = true))) (by omega)) (by omega), by omega⟩) | (refine Nat.le_trans (Nat.mul_le_mul_left _ (Nat.le_of_ble_eq_true (rfl : Nat.ble _ 1024 = true))) ?_; omega) | (unfold inI64; omega) | (constructor <;> omega) | (simp only [inI64, List.length_cons, List.length_append, List.length_nil, List.length_set] at *; omega) | decide | (unfold inI64; decide)); conv => whnf)
    | omega | decide | assumption)
  · exact ⟨(i + 1, o ++ [(i : Int)]), ⟨by omega, by rw [List.length_append]; simp; omega⟩, (show q - (i + 1) < q - i by omega), Entails.mk' [(1000000, 1000000), (5, 16)] rfl rfl ⟨SV.le_refl _, SV.le_refl _, SV.le_refl _, SV.le_refl _, SV.le_refl _, trivial⟩ ⟨Res.le_refl _, Res.le_snocF rfl, trivial⟩⟩
  have hlen : o.length = q := by omega
  refine LoopX.rule hT (C := []) (ι := Int × Int × List Int) (fun (b, j, o) => (a ≤ b ∧ b + j ≤ a + q ∧ -1 ≤ j ∧ j ≤ (q : Int) - 1) ∧ o.length = q)
    (fun (b, j, o) => mkSt [(0, .ptr 1000000 0), (5, .buf 5), (7, .d (.int .i64 j))] [(1000000, strm n L b), (5, inB o)]) (fun (_, j, _) => (j + 1).toNat) (a, (q : Int) - 1, o) ⟨⟨by show a ≤ a; omega, by show a + ((q : Int) - 1) ≤ a + q; omega, by show -1 ≤ (q : Int) - 1; omega, by show (q : Int) - 1 ≤ (q : Int) - 1; omega⟩, hlen⟩ (by (refine Entails.mk' [(1000000, 1000000), (5, 5)] rfl rfl ?_ ?_ <;> repeat' (first | exact True.intro | exact SV.le_refl _ | exact Res.le_refl _ | exact SV.le_int (by omega) | exact SV.le_any _ | refine And.intro ?_ ?_)); done) ?_
  rintro ⟨b, j, o⟩ ⟨⟨r1, r2, r3, r4⟩, r5⟩
  have r1 : a ≤ b := r1
  have r2 : b + j ≤ a + q := r2
  have r3 : -1 ≤ j := r3
  have r4 : j ≤ (q : Int) - 1 := r4
  have r5 : o.length = q := r5
  conv => whnf
  repeat' (first
    | (refine CallX.of (s86 n L hL _ ?_ ?_ _ ?_) [(1000000, 1000000)] rfl ⟨SV.le_refl _, SV.le_refl _, trivial⟩ ⟨Res.le_refl _, trivial⟩ rfl rfl ?_; rotate_right; rintro x rout ⟨⟨k, hk1, hk2, hk3, rfl⟩, ⟨c, c1, c2, rfl⟩⟩; refine ⟨rfl, ?_⟩; conv => whnf)
    | (refine br_intro (fun hb => ?_) (fun hb => ?_) <;> (try simp only [decide_eq_true_eq, decide_eq_false_iff_not, Bool.not_eq_true', Bool.not_eq_false', Bool.and_eq_true, Bool.or_eq_true, beq_iff_eq, not_and, Int.not_le, Int.not_lt, Int.toNat_natCast, beq_eq_false_iff_ne, ne_eq, eq_self, not_true_eq_false, not_false_eq_true] at hb) <;> (conv => whnf))
    | (refine RegX.rule (id := 11) hT rfl [] [(0, []), (1, [0]), (2, [0, 1]), (3, [0, 1, 2]), (4, [0, 1, 2, 3]), (5, [0, 1, 2, 3, 4]), (6, [0, 1, 2, 3]), (7, [0, 1, 2, 3]), (8, [0, 1, 2, 3, 4, 5, 6, 7]), (9, [0, 1, 2, 3, 4, 5, 6, 7, 8]), (10, [0, 1, 2, 3, 4, 5, 6, 7]), (11, [0, 1, 2, 3, 4, 5, 6, 7]), (12, [2, 3]), (13, [2, 3]), (14, []), (15, [])] (by decide +kernel) ?_; conv => whnf)
    | omega
    | (refine And.intro ?_ ?_; ((try dsimp only); first | omega | (refine ⟨by omega, by omega, Int.le_trans (Int.mul_le_mul_of_nonneg_right (Int.ofNat_le.2 (Nat.le_of_ble_eq_true (rfl : Nat.ble _ 1024 = true))) (by omega)) (by omega), by omega⟩) | (refine Nat.le_trans (Nat.mul_le_mul_left _ (Nat.le_of_ble_eq_true (rfl : Nat.ble _ 1024 = true))) ?_; omega) | (unfold inI64; omega) | (constructor <;> omega) | (simp only [inI64, List.length_cons, List.length_append, List.length_nil, List.length_set] at *; omega) | decide | (unfold inI64; decide)); conv => whnf)
    | omega | decide | assumption)
  all_goals first
    | (refine ⟨(b + 1, j - 1, (o.set j.toNat (o.getD k.toNat 0)).set k.toNat (o.getD j.toNat 0)), ⟨⟨by omega, by omega, by omega, by omega⟩, by rw [List.length_set, List.length_set]; exact r5⟩, by show (j - 1 + 1).toNat < (j + 1).toNat; omega, Entails.mk' [(1000000, 1000000), (5, 5)] rfl rfl ⟨SV.le_refl _, SV.le_refl _, SV.le_refl _, trivial⟩ ⟨Res.le_refl _, Res.le_put2 (fun _ => rfl) (fun _ => rfl), trivial⟩⟩)
    | (refine .ret _ ?_
       conv => whnf
       exact ⟨[(1000000, strm n L b), (5, inB o)], ⟨o, b, r5, by omega, by omega, rfl, rfl⟩, Res.le_refl _, Res.le_refl _, trivial⟩)
end Go.Proofs.YtnkdlkgannnfhaaGreatDoor
set_option maxRecDepth 20000
namespace Go.Proofs.YtnkdlkgannnfhaaGreatDoor
open Go Go.Eng
theorem rows_put_snoc {l : List Int} {x y : Int} {j off : Nat} {ds : List DV} {h : Nat → List DV} (hd : ∀ z, setAtD (iF z) off ds = iF x) (hx : h 0 = iF y) :
    ∀ i, i < l.length + 1 → appGet l.length (fun i => bif Nat.beq i j then setAtD (rowF iF 0 l i) off ds else rowF iF 0 l i) h i = rowF iF 0 (l.set j x ++ [y]) i := by
  intro i hi
  have h1 := rows_putF (f := iF) (d := 0) (l := l) (x := x) (j := j) (off := off) (ds := ds) (fun z _ => hd z)
  rcases Nat.lt_or_ge i l.length with q | q
  · rw [appGet_lt q, h1 i q]
    simp only [rowF]
    rw [getD_app_lt (by simpa using q)]
  · have : i = l.length := by omega
    subst this
    rw [appGet_ge (Nat.le_refl _), Nat.sub_self, hx]
    simp only [rowF]
    congr 1
    rw [List.getD_eq_getElem?_getD, List.getElem?_append_right (by simp)]
    simp
theorem nearV_len {l : List Roa} {start : List UInt8} {m : List Mov} : (nearV l start m).1.length ≤ m.length := by
  unfold nearV
  cases h : nearO l start m with
  | none => simp
  | some p =>
    unfold nearO at h
    obtain ⟨q, hq, h⟩ := Option.bind_eq_some_iff.1 h
    have := (nrS_ok hq).1
    obtain ⟨s, hs, h⟩ := Option.map_eq_some_iff.1 h
    subst h
    first | omega | (show q.2.length ≤ m.length; omega) | (simp only; omega)
/-- What the law's own check says of the first i of an order. -/
def onN (E0 : Int) (n : Nat) (o : List Int) (i : Nat) : Int := if E0 ≠ 0 then E0 else firstAt (ordE n o) i
def rcB (l : List Roa) (start : List UInt8) (m : List Mov) (o : List Int) : Int := firstE [drvE l start m, if o.length = m.length then 0 else 3]
theorem onN_zero {l : List Roa} {start : List UInt8} {m : List Mov} {o : List Int} (h : onN (rcB l start m o) m.length o o.length = 0) : drvE l start m = 0 ∧ o.length = m.length ∧ firstAt (ordE m.length o) o.length = 0 := by
  unfold onN rcB at h
  simp only [firstE] at h
  grind
theorem rcE_bad {l : List Roa} {start : List UInt8} {m : List Mov} {o : List Int} (h : onN (rcB l start m o) m.length o o.length ≠ 0) : rcE l start m o = onN (rcB l start m o) m.length o o.length := by
  unfold onN rcB at *
  unfold rcE
  simp only [firstE] at *
  grind
theorem rcE_good {l : List Roa} {start : List UInt8} {m : List Mov} {o : List Int} (h : onN (rcB l start m o) m.length o o.length = 0) : rcE l start m o = if (roundO l start m o).isSome = true then 0 else 8 := by
  obtain ⟨h1, h2, h3⟩ := onN_zero h
  unfold rcE
  rw [if_neg (by omega), if_neg (by omega), if_neg (by omega)]
theorem onN_step (E0 : Int) (n : Nat) (o : List Int) (i : Nat) : onN E0 n o (i + 1) = firstE [onN E0 n o i, if ¬ (0 ≤ o.getD i 0 ∧ o.getD i 0 ≤ (n : Int) - 1) then 8 else 0, if (o.take i).contains (o.getD i 0) = true then 6 else 0] := by
  unfold onN
  simp only [firstE, firstAt, ordE]
  grind
end Go.Proofs.YtnkdlkgannnfhaaGreatDoor
set_option maxRecDepth 20000
namespace Go.Proofs.YtnkdlkgannnfhaaGreatDoor
open Go Go.Eng
end Go.Proofs.YtnkdlkgannnfhaaGreatDoor
