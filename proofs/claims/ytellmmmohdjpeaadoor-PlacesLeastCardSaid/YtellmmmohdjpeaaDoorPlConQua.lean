/- PlacesLeast is proved: for every input the law returns true, and its argument reads afterwards as it read before. Conditions: those of the given row alone. -/
import Derived.Test.YtellmmmohdjpeaaDoorPlConTri
set_option linter.unusedVariables false
set_option linter.unusedSimpArgs false
set_option maxRecDepth 20000
namespace Go.Proofs.YtellmmmohdjpeaaDoor
open Go Go.Eng
-- Moment
theorem s133 (n : Int) : FSpec Tryd.prog 133 [.d (.int .i64 n)] [] (fun x r => x = .d (.bool (decide (0 ≤ n ∧ n ≤ 5761439))) ∧ r = []) := by
  refine spec_of hT (C := []) Tryd.func133 rfl Tryd.call133 rfl rfl rfl ?_
  conv => whnf
  repeat' (first
    | (refine CallX.exact (s110 _ _ _) rfl rfl ?_; rotate_right; conv => whnf)
    | (refine br_intro (fun hb => ?_) (fun hb => ?_) <;> (try simp only [decide_eq_true_eq, decide_eq_false_iff_not, Bool.not_eq_true', Bool.not_eq_false', Bool.and_eq_true, Bool.or_eq_true, beq_iff_eq, not_and, Int.not_le, Int.not_lt, Int.toNat_natCast, beq_eq_false_iff_ne, ne_eq, eq_self, not_true_eq_false, not_false_eq_true] at hb) <;> (conv => whnf))
    | omega
    | (refine And.intro ?_ ?_; ((try dsimp only); first | omega | (refine ⟨by omega, by omega, Int.le_trans (Int.mul_le_mul_of_nonneg_right (Int.ofNat_le.2 (Nat.le_of_ble_eq_true (rfl : Nat.ble _ 1024 = true))) (by omega)) (by omega), by omega⟩) | (refine Nat.le_trans (Nat.mul_le_mul_left _ (Nat.le_of_ble_eq_true (rfl : Nat.ble _ 1024 = true))) ?_; omega) | (unfold inI64; omega) | (constructor <;> omega) | (simp only [inI64, List.length_cons, List.length_append, List.length_nil, List.length_set] at *; omega) | decide | (unfold inI64; decide)); conv => whnf)
    | omega | decide | assumption)
  refine .ret _ ?_
  conv => whnf
  refine ⟨[], ⟨?_, rfl⟩, trivial⟩
  conv => lhs; whnf
def plateL : List UInt8 := [65, 66, 67, 68, 69, 70, 71, 72, 73, 74, 75, 76, 77, 78, 79, 80, 81, 82, 83, 84, 85, 86, 87, 88, 89, 90, 48, 49, 50, 51, 52, 53, 54, 55, 56, 57]
theorem plate_iff (c : UInt8) : plateL.contains c = plCh c := by
  have := u8_all (p := fun c => plateL.contains c == plCh c) (by decide +kernel) c
  simpa using this
theorem plate_eq (s : List UInt8) : isPlateB s = (decide (2 ≤ (s.length : Int) ∧ (s.length : Int) ≤ 10) && onlyB s plateL) := by
  have : s.all plCh = onlyB s plateL := by
    unfold onlyB; congr 1; funext c; exact (plate_iff c).symm
  unfold isPlateB; rw [this]
  cases onlyB s plateL
  · simp
  · rw [Bool.eq_iff_iff]; simp; omega
-- PlateForm
theorem s177 (s : List UInt8) (hl : s.length ≤ 2^40) : FSpec Tryd.prog 177 [.d (.str s)] [] (fun x r => x = .d (.bool (isPlateB s)) ∧ r = []) := by
  refine spec_of hT (C := []) Tryd.func177 rfl Tryd.call177 rfl rfl rfl ?_
  conv => whnf
  repeat' (first
    | (refine CallX.exact (s110 _ _ _) rfl rfl ?_; rotate_right; conv => whnf)
    | (refine CallX.exact (s111 s plateL hl ?_ ?_) rfl rfl ?_; rotate_right; conv => whnf)
    | (refine br_intro (fun hb => ?_) (fun hb => ?_) <;> (try simp only [decide_eq_true_eq, decide_eq_false_iff_not, Bool.not_eq_true', Bool.not_eq_false', Bool.and_eq_true, Bool.or_eq_true, beq_iff_eq, not_and, Int.not_le, Int.not_lt, Int.toNat_natCast, beq_eq_false_iff_ne, ne_eq, eq_self, not_true_eq_false, not_false_eq_true] at hb) <;> (conv => whnf))
    | omega
    | (refine And.intro ?_ ?_; ((try dsimp only); first | omega | (refine ⟨by omega, by omega, Int.le_trans (Int.mul_le_mul_of_nonneg_right (Int.ofNat_le.2 (Nat.le_of_ble_eq_true (rfl : Nat.ble _ 1024 = true))) (by omega)) (by omega), by omega⟩) | (refine Nat.le_trans (Nat.mul_le_mul_left _ (Nat.le_of_ble_eq_true (rfl : Nat.ble _ 1024 = true))) ?_; omega) | (unfold inI64; omega) | (constructor <;> omega) | (simp only [inI64, List.length_cons, List.length_append, List.length_nil, List.length_set] at *; omega) | decide | (unfold inI64; decide)); conv => whnf)
    | omega | decide | assumption)
  all_goals try (simp; omega)
  all_goals
    refine .ret _ ?_
    conv => whnf
    refine ⟨[], ⟨?_, rfl⟩, trivial⟩
    conv => lhs; whnf
    rw [plate_eq]; congr 2; grind
-- sign
theorem s176 (n : Int) : FSpec Tryd.prog 176 [.d (.int .i64 n)] [] (fun x r => x = .d (.int .i64 (cmpI n 0)) ∧ r = []) := by
  refine spec_of hT (C := []) Tryd.func176 rfl Tryd.call176 rfl rfl rfl ?_
  conv => whnf
  repeat' (first
    | (refine br_intro (fun hb => ?_) (fun hb => ?_) <;> (try simp only [decide_eq_true_eq, decide_eq_false_iff_not, Bool.not_eq_true', Bool.not_eq_false', Bool.and_eq_true, Bool.or_eq_true, beq_iff_eq, not_and, Int.not_le, Int.not_lt, Int.toNat_natCast, beq_eq_false_iff_ne, ne_eq, eq_self, not_true_eq_false, not_false_eq_true] at hb) <;> (conv => whnf))
    | omega
    | (refine And.intro ?_ ?_; ((try dsimp only); first | omega | (refine ⟨by omega, by omega, Int.le_trans (Int.mul_le_mul_of_nonneg_right (Int.ofNat_le.2 (Nat.le_of_ble_eq_true (rfl : Nat.ble _ 1024 = true))) (by omega)) (by omega), by omega⟩) | (refine Nat.le_trans (Nat.mul_le_mul_left _ (Nat.le_of_ble_eq_true (rfl : Nat.ble _ 1024 = true))) ?_; omega) | (unfold inI64; omega) | (constructor <;> omega) | (simp only [inI64, List.length_cons, List.length_append, List.length_nil, List.length_set] at *; omega) | decide | (unfold inI64; decide)); conv => whnf)
    | omega | decide | assumption)
  all_goals
    refine .ret _ ?_
    conv => whnf
    refine ⟨[], ⟨?_, rfl⟩, trivial⟩
    conv => lhs; whnf
    congr 2; unfold cmpI; grind
def cmpL : List (List UInt8) → List (List UInt8) → Int
  | [], [] => 0
  | [], _ :: _ => -1
  | _ :: _, [] => 1
  | x :: xs, y :: ys => if cmpS x y ≠ 0 then cmpS x y else cmpL xs ys
-- slices.Compare of strings
theorem s169 (l m : List (List UInt8)) (hl : l.length ≤ 2^40) (hm : m.length ≤ 2^40) : FSpec Tryd.prog 169 [.d (strs l), .d (strs m)] [] (fun x r => x = .d (.int .i64 (cmpL l m)) ∧ r = []) := by
  refine spec_of hT (C := []) Tryd.func169 rfl Tryd.call169 rfl rfl rfl ?_
  conv => whnf
  refine LoopX.rule hT (C := []) (ι := Nat) (fun i => i ≤ l.length ∧ i ≤ m.length ∧ cmpL l m = cmpL (l.drop i) (m.drop i)) (fun i => mkSt [(0, .d (strs l)), (1, .d (strs m)), (9, .d (strs l)), (10, .d (.int .i64 l.length)), (11, .d (.int .i64 i))] []) (fun i => l.length - i) 0 ⟨by omega, by omega, by simp⟩ (by refine Entails.mk' [] rfl rfl ?_ ?_ <;> repeat' (first | exact True.intro | exact SV.le_refl _ | exact Res.le_refl _ | exact SV.le_int (by omega) | exact SV.le_any _ | refine And.intro ?_ ?_)) ?_
  rintro i ⟨p1, p2, p3⟩
  have hd : i < l.length → l.drop i = l.getD i [] :: l.drop (i + 1) := fun hi => by rw [List.drop_eq_getElem_cons hi, List.getD_eq_getElem?_getD, List.getElem?_eq_getElem hi]; rfl
  have hd2 : i < m.length → m.drop i = m.getD i [] :: m.drop (i + 1) := fun hi => by rw [List.drop_eq_getElem_cons hi, List.getD_eq_getElem?_getD, List.getElem?_eq_getElem hi]; rfl
  have e1 : (i : Int).toNat = i := Int.toNat_natCast i
  conv => whnf
  repeat' (first
    | (refine CallX.exact (s184 _ _) rfl rfl ?_; rotate_right; conv => whnf)
    | (refine br_intro (fun hb => ?_) (fun hb => ?_) <;> (try simp only [decide_eq_true_eq, decide_eq_false_iff_not, Bool.not_eq_true', Bool.not_eq_false', Bool.and_eq_true, Bool.or_eq_true, beq_iff_eq, not_and, Int.not_le, Int.not_lt, Int.toNat_natCast, beq_eq_false_iff_ne, ne_eq, eq_self, not_true_eq_false, not_false_eq_true] at hb) <;> (conv => whnf))
    | omega
    | (refine And.intro ?_ ?_; ((try dsimp only); first | omega | (refine ⟨by omega, by omega, Int.le_trans (Int.mul_le_mul_of_nonneg_right (Int.ofNat_le.2 (Nat.le_of_ble_eq_true (rfl : Nat.ble _ 1024 = true))) (by omega)) (by omega), by omega⟩) | (refine Nat.le_trans (Nat.mul_le_mul_left _ (Nat.le_of_ble_eq_true (rfl : Nat.ble _ 1024 = true))) ?_; omega) | (unfold inI64; omega) | (constructor <;> omega) | (simp only [inI64, List.length_cons, List.length_append, List.length_nil, List.length_set] at *; omega) | decide | (unfold inI64; decide)); conv => whnf)
    | omega | decide | assumption)
  · refine .ret _ ?_
    conv => whnf
    refine ⟨[], ⟨?_, rfl⟩, trivial⟩
    conv => lhs; whnf
    congr 2
    rw [p3, hd (by omega), List.drop_eq_nil_iff.2 (by omega : m.length ≤ i)]; rfl
  · refine .ret _ ?_
    conv => whnf
    refine ⟨[], ⟨?_, rfl⟩, trivial⟩
    conv => lhs; whnf
    congr 2
    rw [p3, hd (by omega), hd2 (by omega), cmpL, if_pos (by simpa using hb)]; simp only [e1]
  · refine ⟨i + 1, ⟨by omega, by omega, ?_⟩, by omega, (by refine Entails.mk' [] rfl rfl ?_ ?_ <;> repeat' (first | exact True.intro | exact SV.le_refl _ | exact Res.le_refl _ | exact SV.le_int (by omega) | exact SV.le_any _ | refine And.intro ?_ ?_))⟩
    rw [p3, hd (by omega), hd2 (by omega), cmpL, if_neg (by simpa using hb)]
  · refine .ret _ ?_
    conv => whnf
    refine ⟨[], ⟨?_, rfl⟩, trivial⟩
    conv => lhs; whnf
    congr 2
    have hm : i < m.length := by omega
    rw [p3, hd2 hm, List.drop_eq_nil_iff.2 (by omega : l.length ≤ i)]; rfl
  · refine .ret _ ?_
    conv => whnf
    refine ⟨[], ⟨?_, rfl⟩, trivial⟩
    conv => lhs; whnf
    congr 2
    rw [p3, List.drop_eq_nil_iff.2 (by omega : m.length ≤ i), List.drop_eq_nil_iff.2 (by omega : l.length ≤ i)]; rfl
theorem order_eq (a b : Pas) : pasCmp a b = if a.tm ≠ b.tm then cmpI (a.tm - b.tm) 0 else cmpL [a.gate, a.plate] [b.gate, b.plate] := by
  unfold pasCmp cmpI
  simp only [firstE, cmpL]
  grind
-- PassageOrder
theorem s127 (a b : Pas) (ha : -2^40 ≤ a.tm ∧ a.tm ≤ 2^40) (hb : -2^40 ≤ b.tm ∧ b.tm ≤ 2^40) : FSpec Tryd.prog 127 [.agg ((paF a).map .d), .agg ((paF b).map .d)] [] (fun x r => x = .d (.int .i64 (pasCmp a b)) ∧ r = []) := by
  refine spec_of hT (C := []) Tryd.func127 rfl Tryd.call127 rfl rfl rfl ?_
  conv => whnf
  repeat' (first
    | (refine CallX.exact (s176 _) rfl rfl ?_; rotate_right; conv => whnf)
    | (refine CallX.pure (s169 [_, _] [_, _] (by simp) (by simp)) ⟨SV.le_lit (by rfl) (by rfl), SV.le_lit (by rfl) (by rfl), trivial⟩ rfl ?_; conv => whnf)
    | (refine br_intro (fun hb => ?_) (fun hb => ?_) <;> (try simp only [decide_eq_true_eq, decide_eq_false_iff_not, Bool.not_eq_true', Bool.not_eq_false', Bool.and_eq_true, Bool.or_eq_true, beq_iff_eq, not_and, Int.not_le, Int.not_lt, Int.toNat_natCast, beq_eq_false_iff_ne, ne_eq, eq_self, not_true_eq_false, not_false_eq_true] at hb) <;> (conv => whnf))
    | omega
    | (refine And.intro ?_ ?_; ((try dsimp only); first | omega | (refine ⟨by omega, by omega, Int.le_trans (Int.mul_le_mul_of_nonneg_right (Int.ofNat_le.2 (Nat.le_of_ble_eq_true (rfl : Nat.ble _ 1024 = true))) (by omega)) (by omega), by omega⟩) | (refine Nat.le_trans (Nat.mul_le_mul_left _ (Nat.le_of_ble_eq_true (rfl : Nat.ble _ 1024 = true))) ?_; omega) | (unfold inI64; omega) | (constructor <;> omega) | (simp only [inI64, List.length_cons, List.length_append, List.length_nil, List.length_set] at *; omega) | decide | (unfold inI64; decide)); conv => whnf)
    | omega | decide | assumption)
  all_goals
    refine .ret _ ?_
    conv => whnf
    refine ⟨[], ⟨?_, rfl⟩, trivial⟩
    conv => lhs; whnf
    congr 2
    rw [order_eq]; grind
theorem isKey_nil : isKeyB [] = false := by decide
theorem less_nil (a : List UInt8) : Op.bytesLess a [] = false := by cases a <;> rfl
-- GatesFault
theorem s89 (l : List Gate) (hk : gOk l) : FSpec Tryd.prog 89 [.d (gates l)] [] (fun x r => x = .d (.int .i64 (gatesE l)) ∧ r = []) := by
  refine spec_of hT (C := []) Tryd.func89 rfl Tryd.call89 rfl rfl rfl ?_
  conv => whnf
  refine br_intro (fun h0 => ?_) (fun h0 => ?_)
  · simp at h0
    conv => whnf
    refine .ret _ ?_
    conv => whnf
    refine ⟨[], ⟨?_, rfl⟩, trivial⟩
    conv => lhs; whnf
    unfold gatesE; rw [if_pos (by omega)]
  simp at h0
  conv => whnf
  refine LoopX.rule hT (C := []) (ι := Nat) (fun i => i ≤ l.length ∧ ∀ j, j < i → gateE l j = 0) (fun i => mkSt [(0, .d (gates l)), (3, .d (.str (if i = 0 then [] else (l.getD (i - 1) g0).key))), (9, .d (gates l)), (10, .d (.int .i64 l.length)), (11, .d (.int .i64 i))] []) (fun i => l.length - i) 0 ⟨by omega, by omega⟩ (by refine Entails.mk' [] rfl rfl ?_ ?_ <;> repeat' (first | exact True.intro | exact SV.le_refl _ | exact Res.le_refl _ | exact SV.le_int (by omega) | exact SV.le_any _ | refine And.intro ?_ ?_)) ?_
  rintro i ⟨p1, p2⟩
  have hx : (i : Int) < l.length → (l.getD (i : Int).toNat g0).key.length ≤ 2^40 ∧ (l.getD (i : Int).toNat g0).area.length ≤ 2^40 := fun hi => hk.2 _ (getD_mem (by omega))
  have e1 : (i : Int).toNat = i := Int.toNat_natCast i
  have hbad : ∀ e : Int, i < l.length → e ≠ 0 → gateE l i = e → gatesE l = e := fun e h h1 h2 => by
    unfold gatesE; rw [if_neg (by omega)]
    exact firstAt_eq h p2 h1 h2
  conv => whnf
  repeat' (first
    | (refine CallX.exact (s21 _ (hx (by omega)).1) rfl rfl ?_; rotate_right; conv => whnf)
    | (refine CallX.exact (s21 _ (hx (by omega)).2) rfl rfl ?_; rotate_right; conv => whnf)
    | (refine CallX.exact (s109 _ _ _) rfl rfl ?_; rotate_right; conv => whnf)
    | (refine br_intro (fun hb => ?_) (fun hb => ?_) <;> (try simp only [decide_eq_true_eq, decide_eq_false_iff_not, Bool.not_eq_true', Bool.not_eq_false', Bool.and_eq_true, Bool.or_eq_true, beq_iff_eq, not_and, Int.not_le, Int.not_lt, Int.toNat_natCast, beq_eq_false_iff_ne, ne_eq, eq_self, not_true_eq_false, not_false_eq_true] at hb) <;> (conv => whnf))
    | omega
    | (refine And.intro ?_ ?_; ((try dsimp only); first | omega | (refine ⟨by omega, by omega, Int.le_trans (Int.mul_le_mul_of_nonneg_right (Int.ofNat_le.2 (Nat.le_of_ble_eq_true (rfl : Nat.ble _ 1024 = true))) (by omega)) (by omega), by omega⟩) | (refine Nat.le_trans (Nat.mul_le_mul_left _ (Nat.le_of_ble_eq_true (rfl : Nat.ble _ 1024 = true))) ?_; omega) | (unfold inI64; omega) | (constructor <;> omega) | (simp only [inI64, List.length_cons, List.length_append, List.length_nil, List.length_set] at *; omega) | decide | (unfold inI64; decide)); conv => whnf)
    | omega | decide | assumption)
  all_goals first
    | (refine ⟨i + 1, ⟨by omega, first_step p2 (by clear p2 hbad hk hx; simp only [e1] at *; unfold gateE strLe; grind)⟩, by omega, Entails.mk' [] rfl rfl ⟨SV.le_refl _, (by rw [show (if i + 1 = 0 then ([] : List UInt8) else (l.getD (i + 1 - 1) g0).key) = (l.getD (i : Int).toNat g0).key from by rw [if_neg (by omega), e1, Nat.add_sub_cancel]]; exact SV.le_refl _), SV.le_refl _, SV.le_refl _, SV.le_refl _, trivial⟩ trivial⟩)
    | (refine .ret _ ?_
       conv => whnf
       refine ⟨[], ⟨?_, rfl⟩, trivial⟩
       conv => lhs; whnf
       congr 2
       first
         | exact (hbad _ (by omega) (by decide) (by clear p2 hbad hk hx; simp only [e1] at *; unfold gateE strLe; grind [isKey_nil, less_nil])).symm
         | (have : i = l.length := by omega
            subst this
            unfold gatesE; rw [if_neg (by omega), firstAt_zero p2]))
-- PassageForm
theorem s131 (l : List Pas) (hk : pOk l) : FSpec Tryd.prog 131 [.d (pass l)] [] (fun x r => x = .d (.int .i64 (formE l)) ∧ r = []) := by
  refine spec_of hT (C := []) Tryd.func131 rfl Tryd.call131 rfl rfl rfl ?_
  conv => whnf
  refine br_intro (fun h0 => ?_) (fun h0 => ?_)
  · simp at h0
    conv => whnf
    refine .ret _ ?_
    conv => whnf
    refine ⟨[], ⟨?_, rfl⟩, trivial⟩
    conv => lhs; whnf
    unfold formE; rw [if_pos (by omega)]
  simp at h0
  conv => whnf
  refine LoopX.rule hT (C := []) (ι := Nat) (fun i => i ≤ l.length ∧ ∀ j, j < i → pasE l j = 0) (fun i => mkSt [(0, .d (pass l)), (8, .d (pass l)), (9, .d (.int .i64 l.length)), (10, .d (.int .i64 i))] []) (fun i => l.length - i) 0 ⟨by omega, by omega⟩ (by refine Entails.mk' [] rfl rfl ?_ ?_ <;> repeat' (first | exact True.intro | exact SV.le_refl _ | exact Res.le_refl _ | exact SV.le_int (by omega) | exact SV.le_any _ | refine And.intro ?_ ?_)) ?_
  rintro i ⟨p1, p2⟩
  have hx : (i : Int) < l.length → (l.getD (i : Int).toNat pa0).gate.length ≤ 2^40 ∧ (l.getD (i : Int).toNat pa0).plate.length ≤ 2^40 := fun hi => hk.2 _ (getD_mem (by omega))
  have e1 : (i : Int).toNat = i := Int.toNat_natCast i
  have hbad : ∀ e : Int, i < l.length → e ≠ 0 → pasE l i = e → formE l = e := fun e h h1 h2 => by
    unfold formE; rw [if_neg (by omega)]
    exact firstAt_eq h p2 h1 h2
  have hpr : 0 < (i : Int) → -2^40 ≤ (l.getD ((i : Int) - 1).toNat pa0).tm ∧ (l.getD ((i : Int) - 1).toNat pa0).tm ≤ 2^40 := fun h => by
    have := p2 (i - 1) (by omega)
    rw [toNat_pred]
    unfold pasE at this
    clear hbad hx p2
    grind
  conv => whnf
  repeat' (first
    | (refine CallX.exact (s133 _) rfl rfl ?_; rotate_right; conv => whnf)
    | (refine CallX.exact (s21 _ (hx (by omega)).1) rfl rfl ?_; rotate_right; conv => whnf)
    | (refine CallX.exact (s177 _ (hx (by omega)).2) rfl rfl ?_; rotate_right; conv => whnf)
    | (refine CallX.exact (s109 _ _ _) rfl rfl ?_; rotate_right; conv => whnf)
    | (refine CallX.exact (s127 (l.getD ((i : Int) - 1).toNat pa0) (l.getD (i : Int).toNat pa0) (hpr (by omega)) ⟨by rw [e1]; omega, by rw [e1]; omega⟩) rfl rfl ?_; rotate_right; conv => whnf)
    | (refine br_intro (fun hb => ?_) (fun hb => ?_) <;> (try simp only [decide_eq_true_eq, decide_eq_false_iff_not, Bool.not_eq_true', Bool.not_eq_false', Bool.and_eq_true, Bool.or_eq_true, beq_iff_eq, not_and, Int.not_le, Int.not_lt, Int.toNat_natCast, beq_eq_false_iff_ne, ne_eq, eq_self, not_true_eq_false, not_false_eq_true] at hb) <;> (conv => whnf))
    | (refine RegX.rule (id := 14) hT rfl [] [(0, []), (1, []), (2, []), (3, []), (4, [3]), (5, [3]), (6, []), (7, []), (8, [3, 4, 5, 6, 7]), (9, []), (10, []), (11, []), (12, [])] (by decide +kernel) ?_; conv => whnf)
    | omega
    | (refine And.intro ?_ ?_; ((try dsimp only); first | omega | (refine ⟨by omega, by omega, Int.le_trans (Int.mul_le_mul_of_nonneg_right (Int.ofNat_le.2 (Nat.le_of_ble_eq_true (rfl : Nat.ble _ 1024 = true))) (by omega)) (by omega), by omega⟩) | (refine Nat.le_trans (Nat.mul_le_mul_left _ (Nat.le_of_ble_eq_true (rfl : Nat.ble _ 1024 = true))) ?_; omega) | (unfold inI64; omega) | (constructor <;> omega) | (simp only [inI64, List.length_cons, List.length_append, List.length_nil, List.length_set] at *; omega) | decide | (unfold inI64; decide)); conv => whnf)
    | omega | decide | assumption)
  all_goals first
    | (refine ⟨i + 1, ⟨by omega, first_step p2 (by clear p2 hbad hk hx hpr; simp only [e1, toNat_pred] at *; unfold pasE; grind)⟩, by omega, (by refine Entails.mk' [] rfl rfl ?_ ?_ <;> repeat' (first | exact True.intro | exact SV.le_refl _ | exact Res.le_refl _ | exact SV.le_int (by omega) | exact SV.le_any _ | refine And.intro ?_ ?_))⟩)
    | (refine .ret _ ?_
       conv => whnf
       refine ⟨[], ⟨?_, rfl⟩, trivial⟩
       conv => lhs; whnf
       congr 2
       first
         | exact (hbad _ (by omega) (by decide) (by clear p2 hbad hk hx hpr; simp only [e1, toNat_pred] at *; unfold pasE; grind)).symm
         | (have : i = l.length := by omega
            subst this
            unfold formE; rw [if_neg (by omega), firstAt_zero p2]))
def gateP (l : List Gate) (p : Pas) : Gate := if gateIx l p.gate < 0 then g0 else l.getD (gateIx l p.gate).toNat g0
-- gateOf
theorem s132 (l : List Gate) (hl : l.length ≤ 2^40) (p : Pas) : FSpec Tryd.prog 132 [.d (gates l), .agg ((paF p).map .d)] [] (fun x r => x = .tup [.agg ((gF (gateP l p)).map .d), .d (.bool (decide (0 ≤ gateIx l p.gate)))] ∧ r = []) := by
  refine spec_of hT (C := []) Tryd.func132 rfl Tryd.call132 rfl rfl rfl ?_
  conv => whnf
  refine LoopX.rule hT (C := []) (ι := Nat) (fun i => i ≤ l.length ∧ ∀ j, j < i → ((l.getD j g0).key == p.gate) = false) (fun i => mkSt [(3, .ptr 3 0), (4, .ptr 4 0), (5, .d (.bool false)), (8, .d (gates l)), (9, .d (.int .i64 l.length)), (10, .d (.int .i64 i))] [(3, .cells 140 ((paF p).map .d)), (4, .cells 167 ((gF g0).map .d))]) (fun i => l.length - i) 0 ⟨by omega, by omega⟩ (by refine Entails.mk' [(3, 3), (4, 4)] rfl rfl ?_ ?_ <;> repeat' (first | exact True.intro | exact SV.le_refl _ | exact Res.le_refl _ | exact SV.le_int (by omega) | exact SV.le_any _ | refine And.intro ?_ ?_)) ?_
  rintro i ⟨p1, p2⟩
  have e1 : (i : Int).toNat = i := Int.toNat_natCast i
  conv => whnf
  repeat' (first
    | (refine br_intro (fun hb => ?_) (fun hb => ?_) <;> (try simp only [decide_eq_true_eq, decide_eq_false_iff_not, Bool.not_eq_true', Bool.not_eq_false', Bool.and_eq_true, Bool.or_eq_true, beq_iff_eq, not_and, Int.not_le, Int.not_lt, Int.toNat_natCast, beq_eq_false_iff_ne, ne_eq, eq_self, not_true_eq_false, not_false_eq_true] at hb) <;> (conv => whnf))
    | omega
    | (refine And.intro ?_ ?_; ((try dsimp only); first | omega | (refine ⟨by omega, by omega, Int.le_trans (Int.mul_le_mul_of_nonneg_right (Int.ofNat_le.2 (Nat.le_of_ble_eq_true (rfl : Nat.ble _ 1024 = true))) (by omega)) (by omega), by omega⟩) | (refine Nat.le_trans (Nat.mul_le_mul_left _ (Nat.le_of_ble_eq_true (rfl : Nat.ble _ 1024 = true))) ?_; omega) | (unfold inI64; omega) | (constructor <;> omega) | (simp only [inI64, List.length_cons, List.length_append, List.length_nil, List.length_set] at *; omega) | decide | (unfold inI64; decide)); conv => whnf)
    | omega | decide | assumption)
  · have hg : gateIx l p.gate = i := ixF_hit (by omega) p2 (by simpa using hb)
    have hp : gateP l p = l.getD (i : Int).toNat g0 := by unfold gateP; rw [hg, if_neg (by omega)]
    rw [hp, hg]
    refine .ret _ ?_
    conv => whnf
    refine ⟨[], ⟨congrArg SV.tup ?_, rfl⟩, trivial⟩
    repeat' (refine cons_eq ?_ ?_)
    all_goals (conv => lhs; whnf)
    all_goals try (with_reducible rfl)
    · rfl
    · first | rfl | (congr 2; exact (decide_eq_true (by omega)).symm) | congr 2
  · exact ⟨i + 1, ⟨by omega, all_step p2 (by simpa using hb)⟩, by omega, (by refine Entails.mk' [(3, 3), (4, 4)] rfl rfl ?_ ?_ <;> repeat' (first | exact True.intro | exact SV.le_refl _ | exact Res.le_refl _ | exact SV.le_int (by omega) | exact SV.le_any _ | refine And.intro ?_ ?_))⟩
  · have hg : gateIx l p.gate = -1 := by
      have : i = l.length := by omega
      subst this
      exact ixF_none p2
    have hp : gateP l p = g0 := by unfold gateP; rw [hg, if_pos (by omega)]
    rw [hp, hg]
    refine .ret _ ?_
    conv => whnf
    refine ⟨[], ⟨congrArg SV.tup ?_, rfl⟩, trivial⟩
    repeat' (refine cons_eq ?_ ?_)
    all_goals (conv => lhs; whnf)
    all_goals try (with_reducible rfl)
    · rfl
    · rfl
theorem gateP_true {g : List Gate} {p : Pas} (h : 0 ≤ gateIx g p.gate) : trueT g p = p.tm - (gateP g p).clock := by
  unfold trueT gateP; rw [if_neg (by omega)]
-- TrueOf
theorem s94 (l : List Gate) (hl : l.length ≤ 2^40) (p : Pas) (hp : -2^40 ≤ p.tm ∧ p.tm ≤ 2^40) (hc : -2^40 ≤ (gateP l p).clock ∧ (gateP l p).clock ≤ 2^40) :
    FSpec Tryd.prog 94 [.d (gates l), .agg ((paF p).map .d)] [] (fun x r => x = .d (.int .i64 (p.tm - (gateP l p).clock)) ∧ r = []) := by
  refine spec_of hT (C := []) Tryd.func94 rfl Tryd.call94 rfl rfl rfl ?_
  conv => whnf
  repeat' (first
    | (refine CallX.exact (s132 l hl p) rfl rfl ?_; rotate_right; conv => whnf)
    | (refine br_intro (fun hb => ?_) (fun hb => ?_) <;> (try simp only [decide_eq_true_eq, decide_eq_false_iff_not, Bool.not_eq_true', Bool.not_eq_false', Bool.and_eq_true, Bool.or_eq_true, beq_iff_eq, not_and, Int.not_le, Int.not_lt, Int.toNat_natCast, beq_eq_false_iff_ne, ne_eq, eq_self, not_true_eq_false, not_false_eq_true] at hb) <;> (conv => whnf))
    | omega
    | (refine And.intro ?_ ?_; ((try dsimp only); first | omega | (refine ⟨by omega, by omega, Int.le_trans (Int.mul_le_mul_of_nonneg_right (Int.ofNat_le.2 (Nat.le_of_ble_eq_true (rfl : Nat.ble _ 1024 = true))) (by omega)) (by omega), by omega⟩) | (refine Nat.le_trans (Nat.mul_le_mul_left _ (Nat.le_of_ble_eq_true (rfl : Nat.ble _ 1024 = true))) ?_; omega) | (unfold inI64; omega) | (constructor <;> omega) | (simp only [inI64, List.length_cons, List.length_append, List.length_nil, List.length_set] at *; omega) | decide | (unfold inI64; decide)); conv => whnf)
    | omega | decide | assumption)
  refine .ret _ ?_
  conv => whnf
  refine ⟨[], ⟨?_, rfl⟩, trivial⟩
  conv => lhs; whnf
-- PassagesFault
theorem s67 (g : List Gate) (l : List Pas) (hg : gOk g) (hl : pOk l) : FSpec Tryd.prog 67 [.d (gates g), .d (pass l)] [] (fun x r => x = .d (.int .i64 (chkE g l)) ∧ r = []) := by
  refine spec_of hT (C := []) Tryd.func67 rfl Tryd.call67 rfl rfl rfl ?_
  conv => whnf
  repeat' (first
    | (refine CallX.exact (s89 g hg) rfl rfl ?_; rotate_right; conv => whnf)
    | (refine CallX.exact (s131 l hl) rfl rfl ?_; rotate_right; conv => whnf)
    | (refine br_intro (fun hb => ?_) (fun hb => ?_) <;> (try simp only [decide_eq_true_eq, decide_eq_false_iff_not, Bool.not_eq_true', Bool.not_eq_false', Bool.and_eq_true, Bool.or_eq_true, beq_iff_eq, not_and, Int.not_le, Int.not_lt, Int.toNat_natCast, beq_eq_false_iff_ne, ne_eq, eq_self, not_true_eq_false, not_false_eq_true] at hb) <;> (conv => whnf))
    | omega
    | (refine And.intro ?_ ?_; ((try dsimp only); first | omega | (refine ⟨by omega, by omega, Int.le_trans (Int.mul_le_mul_of_nonneg_right (Int.ofNat_le.2 (Nat.le_of_ble_eq_true (rfl : Nat.ble _ 1024 = true))) (by omega)) (by omega), by omega⟩) | (refine Nat.le_trans (Nat.mul_le_mul_left _ (Nat.le_of_ble_eq_true (rfl : Nat.ble _ 1024 = true))) ?_; omega) | (unfold inI64; omega) | (constructor <;> omega) | (simp only [inI64, List.length_cons, List.length_append, List.length_nil, List.length_set] at *; omega) | decide | (unfold inI64; decide)); conv => whnf)
    | omega | decide | assumption)
  · refine .ret _ ?_
    conv => whnf
    refine ⟨[], ⟨?_, rfl⟩, trivial⟩
    conv => lhs; whnf
    congr 2; unfold chkE; rw [if_pos hb]
  · refine .ret _ ?_
    conv => whnf
    refine ⟨[], ⟨?_, rfl⟩, trivial⟩
    conv => lhs; whnf
    congr 2; unfold chkE; rw [if_neg (by omega), if_pos hb]
  rename_i hb1
  have hb2 : formE l = 0 := by grind
  have hb1 : gatesE g = 0 := by grind
  obtain ⟨n1, n2⟩ := gates_zero hb1
  obtain ⟨n3, n4⟩ := form_zero hb2
  have hE : chkE g l = firstAt (onG g l) l.length := by unfold chkE; rw [if_neg (by omega), if_neg (by omega)]
  rw [hE]
  refine LoopX.rule hT (C := []) (ι := Nat) (fun i => i ≤ l.length ∧ ∀ j, j < i → onG g l j = 0) (fun i => mkSt [(0, .d (gates g)), (21, .d (pass l)), (22, .d (.int .i64 l.length)), (23, .d (.int .i64 i))] []) (fun i => l.length - i) 0 ⟨by omega, by omega⟩ (by refine Entails.mk' [] rfl rfl ?_ ?_ <;> repeat' (first | exact True.intro | exact SV.le_refl _ | exact Res.le_refl _ | exact SV.le_int (by omega) | exact SV.le_any _ | refine And.intro ?_ ?_)) ?_
  rintro i ⟨p1, p2⟩
  have e1 : (i : Int).toNat = i := Int.toNat_natCast i
  have hp : (i : Int) < l.length → 0 ≤ (l.getD (i : Int).toNat pa0).tm ∧ (l.getD (i : Int).toNat pa0).tm ≤ 5761439 := fun hi => n4 _ (getD_mem (by omega))
  have hbad : ∀ e : Int, i < l.length → e ≠ 0 → onG g l i = e → firstAt (onG g l) l.length = e := fun e h h1 h2 => firstAt_eq h p2 h1 h2
  have hcl : ∀ p, -1440 ≤ (gateP g p).clock ∧ (gateP g p).clock ≤ 1440 := fun p => by
    unfold gateP
    split
    · exact ⟨by decide, by decide⟩
    · rename_i hq
      have := (ixF_bd (p := fun i => (g.getD i g0).key == p.gate) (n := g.length)).2.1
      exact n2 _ (getD_mem (by unfold gateIx at hq ⊢; omega))
  have hcl1 := hcl (l.getD (i : Int).toNat pa0)
  have ht : 0 ≤ gateIx g (l.getD i pa0).gate → trueT g (l.getD i pa0) = (l.getD i pa0).tm - (gateP g (l.getD i pa0)).clock := gateP_true
  conv => whnf
  repeat' (first
    | (refine CallX.exact (s132 g hg.1 (l.getD (i : Int).toNat pa0)) rfl rfl ?_; rotate_right; conv => whnf)
    | (refine CallX.exact (s94 g hg.1 (l.getD (i : Int).toNat pa0) ⟨by omega, by omega⟩ ⟨by omega, by omega⟩) rfl rfl ?_; rotate_right; conv => whnf)
    | (refine CallX.exact (s133 _) rfl rfl ?_; rotate_right; conv => whnf)
    | (refine br_intro (fun hb => ?_) (fun hb => ?_) <;> (try simp only [decide_eq_true_eq, decide_eq_false_iff_not, Bool.not_eq_true', Bool.not_eq_false', Bool.and_eq_true, Bool.or_eq_true, beq_iff_eq, not_and, Int.not_le, Int.not_lt, Int.toNat_natCast, beq_eq_false_iff_ne, ne_eq, eq_self, not_true_eq_false, not_false_eq_true] at hb) <;> (conv => whnf))
    | omega
    | (refine And.intro ?_ ?_; ((try dsimp only); first | omega | (refine ⟨by omega, by omega, Int.le_trans (Int.mul_le_mul_of_nonneg_right (Int.ofNat_le.2 (Nat.le_of_ble_eq_true (rfl : Nat.ble _ 1024 = true))) (by omega)) (by omega), by omega⟩) | (refine Nat.le_trans (Nat.mul_le_mul_left _ (Nat.le_of_ble_eq_true (rfl : Nat.ble _ 1024 = true))) ?_; omega) | (unfold inI64; omega) | (constructor <;> omega) | (simp only [inI64, List.length_cons, List.length_append, List.length_nil, List.length_set] at *; omega) | decide | (unfold inI64; decide)); conv => whnf)
    | omega | decide | assumption)
  all_goals first
    | (refine ⟨i + 1, ⟨by omega, first_step p2 (by clear p2 hbad hcl n2 n4; simp only [e1] at *; unfold onG; grind)⟩, by omega, (by refine Entails.mk' [] rfl rfl ?_ ?_ <;> repeat' (first | exact True.intro | exact SV.le_refl _ | exact Res.le_refl _ | exact SV.le_int (by omega) | exact SV.le_any _ | refine And.intro ?_ ?_))⟩)
    | (refine .ret _ ?_
       conv => whnf
       refine ⟨[], ⟨?_, rfl⟩, trivial⟩
       conv => lhs; whnf
       congr 2
       first
         | exact (hbad _ (by omega) (by decide) (by clear p2 hbad hcl n2 n4; simp only [e1] at *; unfold onG; grind)).symm
         | (have : i = l.length := by omega
            subst this
            rw [firstAt_zero p2]))
end Go.Proofs.YtellmmmohdjpeaaDoor
set_option maxRecDepth 20000
namespace Go.Proofs.YtellmmmohdjpeaaDoor
open Go Go.Eng
theorem Res.le_put2 {α : Type} {f : α → List DV} {d : α} {l : List α} {x y : α} {e k j1 j2 : Nat} {ds1 ds2 : List DV} (h1 : ∀ z, setAtD (f z) 0 ds1 = f x) (h2 : ∀ z, setAtD (f z) 0 ds2 = f y) :
    Res.le (.buf e k l.length fun i => bif Nat.beq i j2 then setAtD (bif Nat.beq i j1 then setAtD (rowF f d l i) 0 ds1 else rowF f d l i) 0 ds2 else bif Nat.beq i j1 then setAtD (rowF f d l i) 0 ds1 else rowF f d l i) (seqB e k f d ((l.set j1 x).set j2 y)) := by
  refine Res.le_buf (by simp) (fun k hk => ?_)
  have e1 := rows_putG (f := f) (d := d) (l := l) (x := x) (j := j1) (off := 0) (ds := ds1) (get := rowF f d l) (fun _ _ => rfl) (fun z _ => h1 z)
  have e2 := rows_putG (f := f) (d := d) (l := l.set j1 x) (x := y) (j := j2) (off := 0) (ds := ds2) (get := fun i => bif Nat.beq i j1 then setAtD (rowF f d l i) 0 ds1 else rowF f d l i) (fun k hk => e1 k (by simpa using hk)) (fun z _ => h2 z)
  exact e2 k (by simpa using hk)
def gSh (l : List Gate) : Prop := l.length = 3 ∧ ∀ g ∈ l, g.key.length ≤ 8 ∧ g.area.length ≤ 8
theorem mem_len' {l : List (List UInt8)} {u : List UInt8} (h : u ∈ l) (q : l.all (fun x => decide (x.length ≤ 8)) = true) : u.length ≤ 8 := mem_len h q
def gLit (u1 u2 : Int) : List Gate := [⟨[103, 49], [99, 105, 116, 121], u1⟩, ⟨[103, 50], [99, 105, 116, 121], 0⟩, ⟨[103, 51], [114, 105, 110, 103], u2⟩]
theorem gLit_sh (u1 u2 : Int) : gSh (gLit u1 u2) := ⟨rfl, by intro g hg; simp [gLit] at hg; rcases hg with rfl | rfl | rfl <;> simp⟩
theorem gSh_set {l : List Gate} {j : Nat} {x : Gate} (h : gSh l) (h1 : x.key.length ≤ 8) (h2 : x.area.length ≤ 8) : gSh (l.set j x) :=
  ⟨by rw [List.length_set]; exact h.1, fun y hy => by rcases List.mem_or_eq_of_mem_set hy with q | q; exact h.2 y q; subst q; exact ⟨h1, h2⟩⟩
theorem gLit_rows (u1 u2 : Int) : ∀ i, i < (gLit u1 u2).length → [[DV.str [103, 49], .str [99, 105, 116, 121], .int .i64 u1], [.str [103, 50], .str [99, 105, 116, 121], .int .i64 0], [.str [103, 51], .str [114, 105, 110, 103], .int .i64 u2]].getD i [] = rowF gF g0 (gLit u1 u2) i := rows_lit rfl
-- Gates
theorem s62 (n : Nat) (L : Nat → Int) (hL : Rok n L) (a : Int) (h0 : 0 ≤ a) (ha : a ≤ 2^38) :
    FSpec Tryd.prog 62 [.ptr 1000000 0] [(1000000, strm n L a)] (fun y r => (∃ l, gSh l ∧ y = .d (gates l)) ∧ Moved n L a 20 r) := by
  refine spec_of hT (C := [13]) Tryd.func62 rfl Tryd.call62 rfl rfl rfl ?_
  conv => whnf
  repeat' (first
    | (refine CallX.of (s33 n L hL _ ?_ ?_ [0, 5, -5] ?_ ?_) [(1000000, 1000000)] rfl ⟨SV.le_refl _, SV.le_lit rfl rfl, trivial⟩ ⟨Res.le_refl _, trivial⟩ rfl rfl ?_; rotate_right; rintro x rout ⟨⟨u1, hu1, rfl⟩, ⟨c, c1, c2, rfl⟩⟩; refine ⟨rfl, ?_⟩; conv => whnf)
    | (refine CallX.of (s33 n L hL _ ?_ ?_ [0, 60, -1440] ?_ ?_) [(1000000, 1000000)] rfl ⟨SV.le_refl _, SV.le_lit rfl rfl, trivial⟩ ⟨Res.le_refl _, trivial⟩ rfl rfl ?_; rotate_right; rintro x rout ⟨⟨u2, hu2, rfl⟩, ⟨c, c1, c2, rfl⟩⟩; refine ⟨rfl, ?_⟩; conv => whnf)
    | (refine CallX.of (s84 n L hL _ ?_ ?_ _ ?_) [(1000000, 1000000)] rfl ⟨SV.le_refl _, SV.le_refl _, trivial⟩ ⟨Res.le_refl _, trivial⟩ rfl rfl ?_; rotate_right; rintro x rout ⟨⟨f, rfl⟩, ⟨c, c1, c2, rfl⟩⟩; refine ⟨rfl, ?_⟩; conv => whnf)
    | (refine CallX.of (s86 n L hL _ ?_ ?_ _ ?_) [(1000000, 1000000)] rfl ⟨SV.le_refl _, SV.le_refl _, trivial⟩ ⟨Res.le_refl _, trivial⟩ rfl rfl ?_; rotate_right; rintro x rout ⟨⟨j, hj1, hj2, hj3, rfl⟩, ⟨c, c1, c2, rfl⟩⟩; refine ⟨rfl, ?_⟩; conv => whnf)
    | (refine CallX.of (s15 n L hL _ ?_ ?_ [[103, 49], [], [103, 50]] ?_ ?_) [(1000000, 1000000)] rfl ⟨SV.le_refl _, SV.le_lit rfl rfl, trivial⟩ ⟨Res.le_refl _, trivial⟩ rfl rfl ?_; rotate_right; rintro x rout ⟨⟨u3, hu3, rfl⟩, ⟨c, c1, c2, rfl⟩⟩; refine ⟨rfl, ?_⟩; conv => whnf)
    | (refine CallX.of (s15 n L hL _ ?_ ?_ [[99, 105, 116, 121], []] ?_ ?_) [(1000000, 1000000)] rfl ⟨SV.le_refl _, SV.le_lit rfl rfl, trivial⟩ ⟨Res.le_refl _, trivial⟩ rfl rfl ?_; rotate_right; rintro x rout ⟨⟨u4, hu4, rfl⟩, ⟨c, c1, c2, rfl⟩⟩; refine ⟨rfl, ?_⟩; conv => whnf)
    | (refine CallX.of (s104 n L hL _ ?_ ?_ _ _ ?_ ?_ ?_) [(1000000, 1000000)] rfl ⟨SV.le_refl _, SV.le_refl _, SV.le_refl _, trivial⟩ ⟨Res.le_refl _, trivial⟩ rfl rfl ?_; rotate_right; rintro x rout ⟨⟨u5, hk1, hk2, rfl⟩, ⟨c, c1, c2, rfl⟩⟩; refine ⟨rfl, ?_⟩; conv => whnf)
    | (refine br_intro (fun hb => ?_) (fun hb => ?_) <;> (try simp only [decide_eq_true_eq, decide_eq_false_iff_not, Bool.not_eq_true', Bool.not_eq_false', Bool.and_eq_true, Bool.or_eq_true, beq_iff_eq, not_and, Int.not_le, Int.not_lt, Int.toNat_natCast, beq_eq_false_iff_ne, ne_eq, eq_self, not_true_eq_false, not_false_eq_true] at hb) <;> (conv => whnf))
    | omega
    | (refine And.intro ?_ ?_; ((try dsimp only); first | omega | (refine ⟨by omega, by omega, Int.le_trans (Int.mul_le_mul_of_nonneg_right (Int.ofNat_le.2 (Nat.le_of_ble_eq_true (rfl : Nat.ble _ 1024 = true))) (by omega)) (by omega), by omega⟩) | (refine Nat.le_trans (Nat.mul_le_mul_left _ (Nat.le_of_ble_eq_true (rfl : Nat.ble _ 1024 = true))) ?_; omega) | (unfold inI64; omega) | (constructor <;> omega) | (simp only [inI64, List.length_cons, List.length_append, List.length_nil, List.length_set] at *; omega) | decide | (unfold inI64; decide)); conv => whnf)
    | omega | decide | assumption)
  · refine .freeze _ 13 167 3 _ _ rfl (.weak _ ?_)
    (conv => whnf)
    refine ⟨_, [(1000000, strm n L _)], SV.le_ro (by rw [List.length_set]; rfl) (rows_putG (f := gF) (d := g0) (l := gLit u1 u2) (x := ⟨u3, u4, u5⟩) (gLit_rows u1 u2) (fun _ _ => rfl)), ⟨⟨_, gSh_set (gLit_sh u1 u2) (mem_len hu3 rfl) (mem_len hu4 rfl), rfl⟩, _, by omega, by omega, rfl⟩, Res.le_refl _, trivial⟩
  · refine .freeze _ 13 167 3 _ _ rfl (.weak _ ?_)
    (conv => whnf)
    exact ⟨_, [(1000000, strm n L _)], SV.le_ro (rfl : (gLit u1 u2).length = _) (gLit_rows u1 u2), ⟨⟨gLit u1 u2, gLit_sh u1 u2, rfl⟩, _, by omega, by omega, rfl⟩, Res.le_refl _, trivial⟩
def sameP (l c : List Pas) : Prop := c.length = l.length ∧ ∀ x ∈ c, x ∈ l
theorem sameP_set {l c : List Pas} {j : Nat} {x : Pas} (h : sameP l c) (hx : x ∈ l) : sameP l (c.set j x) :=
  ⟨by rw [List.length_set]; exact h.1, fun y hy => by rcases List.mem_or_eq_of_mem_set hy with q | q; exact h.2 y q; subst q; exact hx⟩
-- insertion sort of passages: the same elements
theorem s208 (g : FuncId) (cmp : Pas → Pas → Int) (l : List Pas) (hl : l.length ≤ 2^40)
    (hcmp : ∀ p q, p ∈ l → q ∈ l → FSpec Tryd.prog g [.agg ((paF p).map .d), .agg ((paF q).map .d)] [] (fun y r => y = .d (.int .i64 (cmp p q)) ∧ r = [])) :
    FSpec Tryd.prog 208 [.buf 1000001, .d (.int .i64 0), .d (.int .i64 l.length), .fn g []] [(1000001, seqB 140 4 paF pa0 l)]
      (fun y r => y = .tup [] ∧ ∃ c, sameP l c ∧ r = [(1000001, seqB 140 4 paF pa0 c)]) := by
  refine spec_of hT (C := []) Tryd.func208 rfl Tryd.call208 rfl rfl rfl ?_
  conv => whnf
  repeat' (first
    | (refine br_intro (fun hb => ?_) (fun hb => ?_) <;> (try simp only [decide_eq_true_eq, decide_eq_false_iff_not, Bool.not_eq_true', Bool.not_eq_false', Bool.and_eq_true, Bool.or_eq_true, beq_iff_eq, not_and, Int.not_le, Int.not_lt, Int.toNat_natCast, beq_eq_false_iff_ne, ne_eq, eq_self, not_true_eq_false, not_false_eq_true] at hb) <;> (conv => whnf))
    | (refine RegX.rule (id := 4) hT rfl [] [(0, []), (1, [0]), (2, []), (3, []), (4, []), (5, [4]), (6, [4, 5]), (7, [4]), (8, [4]), (9, [4, 5, 6, 7, 8]), (10, [4, 5, 6, 7, 8, 9]), (11, [4, 5, 6, 7, 8, 9]), (12, [4, 5, 6, 7, 8]), (13, [4, 5, 6, 7, 8]), (14, []), (15, []), (16, [])] (by decide +kernel) ?_; conv => whnf)
    | (refine RegX.rule (id := 6) hT rfl [] [(0, []), (1, [0]), (2, [0, 1]), (3, [0, 1, 2]), (4, [0, 1, 2]), (5, [0, 1, 2, 3, 4]), (6, [0, 1, 2, 3, 4, 5]), (7, [0, 1, 2, 3, 4, 5]), (8, [0, 1, 2, 3, 4]), (9, [0, 1, 2, 3, 4]), (10, [0, 1, 2, 3, 4, 5, 6, 7, 8, 9]), (11, [0, 1, 2, 3, 4, 5, 6, 7, 8, 9, 10]), (12, [0, 1, 2, 3, 4, 5, 6, 7, 8, 9]), (13, [0, 1, 2, 3, 4, 5, 6, 7, 8, 9]), (14, [2, 3, 4]), (15, [2, 3, 4]), (16, []), (17, [])] (by decide +kernel) ?_; conv => whnf)
    | omega
    | (refine And.intro ?_ ?_; ((try dsimp only); first | omega | (refine ⟨by omega, by omega, Int.le_trans (Int.mul_le_mul_of_nonneg_right (Int.ofNat_le.2 (Nat.le_of_ble_eq_true (rfl : Nat.ble _ 1024 = true))) (by omega)) (by omega), by omega⟩) | (refine Nat.le_trans (Nat.mul_le_mul_left _ (Nat.le_of_ble_eq_true (rfl : Nat.ble _ 1024 = true))) ?_; omega) | (unfold inI64; omega) | (constructor <;> omega) | (simp only [inI64, List.length_cons, List.length_append, List.length_nil, List.length_set] at *; omega) | decide | (unfold inI64; decide)); conv => whnf)
    | omega | decide | assumption)
  refine LoopX.rule hT (C := []) (ι := Nat × List Pas) (fun (i, c) => 1 ≤ i ∧ (i ≤ l.length ∨ i = 1) ∧ sameP l c)
    (fun (i, c) => mkSt [(0, .buf 1000001), (1, .d (.int .i64 0)), (2, .d (.int .i64 l.length)), (3, .fn g []), (8, .d (.int .i64 i))] [(1000001, seqB 140 4 paF pa0 c)])
    (fun (i, _) => l.length - i) (1, l) ⟨by simp, by simp, rfl, fun x h => h⟩ (by refine Entails.mk' [(1000001, 1000001)] rfl rfl ?_ ?_ <;> repeat' (first | exact True.intro | exact SV.le_refl _ | exact Res.le_refl _ | exact SV.le_int (by omega) | exact SV.le_any _ | refine And.intro ?_ ?_)) ?_
  rintro ⟨i, c⟩ ⟨p1, p2, p3⟩
  have hc0 := p3.1
  conv => whnf
  repeat' (first
    | (refine br_intro (fun hb => ?_) (fun hb => ?_) <;> (try simp only [decide_eq_true_eq, decide_eq_false_iff_not, Bool.not_eq_true', Bool.not_eq_false', Bool.and_eq_true, Bool.or_eq_true, beq_iff_eq, not_and, Int.not_le, Int.not_lt, Int.toNat_natCast, beq_eq_false_iff_ne, ne_eq, eq_self, not_true_eq_false, not_false_eq_true] at hb) <;> (conv => whnf))
    | (refine RegX.rule (id := 4) hT rfl [] [(0, []), (1, [0]), (2, []), (3, []), (4, []), (5, [4]), (6, [4, 5]), (7, [4]), (8, [4]), (9, [4, 5, 6, 7, 8]), (10, [4, 5, 6, 7, 8, 9]), (11, [4, 5, 6, 7, 8, 9]), (12, [4, 5, 6, 7, 8]), (13, [4, 5, 6, 7, 8]), (14, []), (15, []), (16, [])] (by decide +kernel) ?_; conv => whnf)
    | (refine RegX.rule (id := 6) hT rfl [] [(0, []), (1, [0]), (2, [0, 1]), (3, [0, 1, 2]), (4, [0, 1, 2]), (5, [0, 1, 2, 3, 4]), (6, [0, 1, 2, 3, 4, 5]), (7, [0, 1, 2, 3, 4, 5]), (8, [0, 1, 2, 3, 4]), (9, [0, 1, 2, 3, 4]), (10, [0, 1, 2, 3, 4, 5, 6, 7, 8, 9]), (11, [0, 1, 2, 3, 4, 5, 6, 7, 8, 9, 10]), (12, [0, 1, 2, 3, 4, 5, 6, 7, 8, 9]), (13, [0, 1, 2, 3, 4, 5, 6, 7, 8, 9]), (14, [2, 3, 4]), (15, [2, 3, 4]), (16, []), (17, [])] (by decide +kernel) ?_; conv => whnf)
    | omega
    | (refine And.intro ?_ ?_; ((try dsimp only); first | omega | (refine ⟨by omega, by omega, Int.le_trans (Int.mul_le_mul_of_nonneg_right (Int.ofNat_le.2 (Nat.le_of_ble_eq_true (rfl : Nat.ble _ 1024 = true))) (by omega)) (by omega), by omega⟩) | (refine Nat.le_trans (Nat.mul_le_mul_left _ (Nat.le_of_ble_eq_true (rfl : Nat.ble _ 1024 = true))) ?_; omega) | (unfold inI64; omega) | (constructor <;> omega) | (simp only [inI64, List.length_cons, List.length_append, List.length_nil, List.length_set] at *; omega) | decide | (unfold inI64; decide)); conv => whnf)
    | omega | decide | assumption)
  · refine LoopX.rule hT (C := []) (ι := Nat × List Pas) (fun (j, c) => j ≤ i ∧ sameP l c)
      (fun (j, c) => mkSt [(0, .buf 1000001), (1, .d (.int .i64 0)), (2, .d (.int .i64 l.length)), (3, .fn g []), (8, .d (.int .i64 i)), (9, .d (.int .i64 j))] [(1000001, seqB 140 4 paF pa0 c)])
      (fun (j, _) => j) (i, c) ⟨Nat.le_refl _, p3⟩ (by refine Entails.mk' [(1000001, 1000001)] rfl rfl ?_ ?_ <;> repeat' (first | exact True.intro | exact SV.le_refl _ | exact Res.le_refl _ | exact SV.le_int (by omega) | exact SV.le_any _ | refine And.intro ?_ ?_)) ?_
    rintro ⟨j, b⟩ ⟨q1, q3⟩
    have hb0 := q3.1
    conv => whnf
    repeat' (first
      | (refine br_intro (fun hb => ?_) (fun hb => ?_) <;> (try simp only [decide_eq_true_eq, decide_eq_false_iff_not, Bool.not_eq_true', Bool.not_eq_false', Bool.and_eq_true, Bool.or_eq_true, beq_iff_eq, not_and, Int.not_le, Int.not_lt, Int.toNat_natCast, beq_eq_false_iff_ne, ne_eq, eq_self, not_true_eq_false, not_false_eq_true] at hb) <;> (conv => whnf))
      | (refine RegX.rule (id := 4) hT rfl [] [(0, []), (1, [0]), (2, []), (3, []), (4, []), (5, [4]), (6, [4, 5]), (7, [4]), (8, [4]), (9, [4, 5, 6, 7, 8]), (10, [4, 5, 6, 7, 8, 9]), (11, [4, 5, 6, 7, 8, 9]), (12, [4, 5, 6, 7, 8]), (13, [4, 5, 6, 7, 8]), (14, []), (15, []), (16, [])] (by decide +kernel) ?_; conv => whnf)
      | (refine RegX.rule (id := 6) hT rfl [] [(0, []), (1, [0]), (2, [0, 1]), (3, [0, 1, 2]), (4, [0, 1, 2]), (5, [0, 1, 2, 3, 4]), (6, [0, 1, 2, 3, 4, 5]), (7, [0, 1, 2, 3, 4, 5]), (8, [0, 1, 2, 3, 4]), (9, [0, 1, 2, 3, 4]), (10, [0, 1, 2, 3, 4, 5, 6, 7, 8, 9]), (11, [0, 1, 2, 3, 4, 5, 6, 7, 8, 9, 10]), (12, [0, 1, 2, 3, 4, 5, 6, 7, 8, 9]), (13, [0, 1, 2, 3, 4, 5, 6, 7, 8, 9]), (14, [2, 3, 4]), (15, [2, 3, 4]), (16, []), (17, [])] (by decide +kernel) ?_; conv => whnf)
      | omega
      | (refine And.intro ?_ ?_; ((try dsimp only); first | omega | (refine ⟨by omega, by omega, Int.le_trans (Int.mul_le_mul_of_nonneg_right (Int.ofNat_le.2 (Nat.le_of_ble_eq_true (rfl : Nat.ble _ 1024 = true))) (by omega)) (by omega), by omega⟩) | (refine Nat.le_trans (Nat.mul_le_mul_left _ (Nat.le_of_ble_eq_true (rfl : Nat.ble _ 1024 = true))) ?_; omega) | (unfold inI64; omega) | (constructor <;> omega) | (simp only [inI64, List.length_cons, List.length_append, List.length_nil, List.length_set] at *; omega) | decide | (unfold inI64; decide)); conv => whnf)
      | omega | decide | assumption)
    · refine CallX.of (hcmp (b.getD (j : Int).toNat pa0) (b.getD ((j : Int) - 1).toNat pa0) (q3.2 _ (getD_mem (by omega))) (q3.2 _ (getD_mem (by omega)))) [] rfl ⟨SV.le_refl _, SV.le_refl _, trivial⟩ trivial rfl rfl ?_
      rintro x rout ⟨rfl, rfl⟩
      refine ⟨rfl, ?_⟩
      conv => whnf
      repeat' (first
        | (refine br_intro (fun hb => ?_) (fun hb => ?_) <;> (try simp only [decide_eq_true_eq, decide_eq_false_iff_not, Bool.not_eq_true', Bool.not_eq_false', Bool.and_eq_true, Bool.or_eq_true, beq_iff_eq, not_and, Int.not_le, Int.not_lt, Int.toNat_natCast, beq_eq_false_iff_ne, ne_eq, eq_self, not_true_eq_false, not_false_eq_true] at hb) <;> (conv => whnf))
        | (refine RegX.rule (id := 4) hT rfl [] [(0, []), (1, [0]), (2, []), (3, []), (4, []), (5, [4]), (6, [4, 5]), (7, [4]), (8, [4]), (9, [4, 5, 6, 7, 8]), (10, [4, 5, 6, 7, 8, 9]), (11, [4, 5, 6, 7, 8, 9]), (12, [4, 5, 6, 7, 8]), (13, [4, 5, 6, 7, 8]), (14, []), (15, []), (16, [])] (by decide +kernel) ?_; conv => whnf)
        | (refine RegX.rule (id := 6) hT rfl [] [(0, []), (1, [0]), (2, [0, 1]), (3, [0, 1, 2]), (4, [0, 1, 2]), (5, [0, 1, 2, 3, 4]), (6, [0, 1, 2, 3, 4, 5]), (7, [0, 1, 2, 3, 4, 5]), (8, [0, 1, 2, 3, 4]), (9, [0, 1, 2, 3, 4]), (10, [0, 1, 2, 3, 4, 5, 6, 7, 8, 9]), (11, [0, 1, 2, 3, 4, 5, 6, 7, 8, 9, 10]), (12, [0, 1, 2, 3, 4, 5, 6, 7, 8, 9]), (13, [0, 1, 2, 3, 4, 5, 6, 7, 8, 9]), (14, [2, 3, 4]), (15, [2, 3, 4]), (16, []), (17, [])] (by decide +kernel) ?_; conv => whnf)
        | omega
        | (refine And.intro ?_ ?_; ((try dsimp only); first | omega | (refine ⟨by omega, by omega, Int.le_trans (Int.mul_le_mul_of_nonneg_right (Int.ofNat_le.2 (Nat.le_of_ble_eq_true (rfl : Nat.ble _ 1024 = true))) (by omega)) (by omega), by omega⟩) | (refine Nat.le_trans (Nat.mul_le_mul_left _ (Nat.le_of_ble_eq_true (rfl : Nat.ble _ 1024 = true))) ?_; omega) | (unfold inI64; omega) | (constructor <;> omega) | (simp only [inI64, List.length_cons, List.length_append, List.length_nil, List.length_set] at *; omega) | decide | (unfold inI64; decide)); conv => whnf)
        | omega | decide | assumption)
      · refine ⟨(j - 1, _), ⟨by omega, sameP_set (sameP_set q3 (q3.2 _ (getD_mem (i := ((j : Int) - 1).toNat) (x := pa0) (by omega)))) (q3.2 _ (getD_mem (i := (j : Int).toNat) (x := pa0) (by omega)))⟩, by show j - 1 < j; omega, Entails.mk' [(1000001, 1000001)] rfl rfl ⟨SV.le_refl _, SV.le_refl _, SV.le_refl _, SV.le_refl _, SV.le_refl _, SV.le_int (by omega), trivial⟩ ⟨Res.le_put2 (fun _ => rfl) (fun _ => rfl), trivial⟩⟩
      · exact ⟨(i + 1, b), ⟨by omega, by omega, q3⟩, by show l.length - (i + 1) < l.length - i; omega, (by refine Entails.mk' [(1000001, 1000001)] rfl rfl ?_ ?_ <;> repeat' (first | exact True.intro | exact SV.le_refl _ | exact Res.le_refl _ | exact SV.le_int (by omega) | exact SV.le_any _ | refine And.intro ?_ ?_))⟩
    · exact ⟨(i + 1, b), ⟨by omega, by omega, q3⟩, by show l.length - (i + 1) < l.length - i; omega, (by refine Entails.mk' [(1000001, 1000001)] rfl rfl ?_ ?_ <;> repeat' (first | exact True.intro | exact SV.le_refl _ | exact Res.le_refl _ | exact SV.le_int (by omega) | exact SV.le_any _ | refine And.intro ?_ ?_))⟩
  · refine .ret _ ?_
    conv => whnf
    exact ⟨_, ⟨rfl, c, p3, rfl⟩, Res.le_refl _, trivial⟩
-- stable sort of at most twenty passages
theorem s175 (g : FuncId) (cmp : Pas → Pas → Int) (l : List Pas) (hl : l.length < 20)
    (hcmp : ∀ p q, p ∈ l → q ∈ l → FSpec Tryd.prog g [.agg ((paF p).map .d), .agg ((paF q).map .d)] [] (fun y r => y = .d (.int .i64 (cmp p q)) ∧ r = [])) :
    FSpec Tryd.prog 175 [.buf 1000001, .d (.int .i64 l.length), .fn g []] [(1000001, seqB 140 4 paF pa0 l)]
      (fun y r => y = .tup [] ∧ ∃ c, sameP l c ∧ r = [(1000001, seqB 140 4 paF pa0 c)]) := by
  refine spec_of hT (C := []) Tryd.func175 rfl Tryd.call175 rfl rfl rfl ?_
  conv => whnf
  refine LoopX.rule hT (C := []) (ι := Unit) (fun _ => True) (fun _ => mkSt [(0, .buf 1000001), (1, .d (.int .i64 l.length)), (2, .fn g []), (6, .d (.int .i64 20)), (7, .d (.int .i64 0)), (8, .d (.int .i64 20))] [(1000001, seqB 140 4 paF pa0 l)]) (fun _ => 0) () trivial (by refine Entails.mk' [(1000001, 1000001)] rfl rfl ?_ ?_ <;> repeat' (first | exact True.intro | exact SV.le_refl _ | exact Res.le_refl _ | exact SV.le_int (by omega) | exact SV.le_any _ | refine And.intro ?_ ?_)) ?_
  rintro ⟨⟩ -
  conv => whnf
  repeat' (first
    | (refine br_intro (fun hb => ?_) (fun hb => ?_) <;> (try simp only [decide_eq_true_eq, decide_eq_false_iff_not, Bool.not_eq_true', Bool.not_eq_false', Bool.and_eq_true, Bool.or_eq_true, beq_iff_eq, not_and, Int.not_le, Int.not_lt, Int.toNat_natCast, beq_eq_false_iff_ne, ne_eq, eq_self, not_true_eq_false, not_false_eq_true] at hb) <;> (conv => whnf))
    | omega
    | (refine And.intro ?_ ?_; ((try dsimp only); first | omega | (refine ⟨by omega, by omega, Int.le_trans (Int.mul_le_mul_of_nonneg_right (Int.ofNat_le.2 (Nat.le_of_ble_eq_true (rfl : Nat.ble _ 1024 = true))) (by omega)) (by omega), by omega⟩) | (refine Nat.le_trans (Nat.mul_le_mul_left _ (Nat.le_of_ble_eq_true (rfl : Nat.ble _ 1024 = true))) ?_; omega) | (unfold inI64; omega) | (constructor <;> omega) | (simp only [inI64, List.length_cons, List.length_append, List.length_nil, List.length_set] at *; omega) | decide | (unfold inI64; decide)); conv => whnf)
    | omega | decide | assumption)
  refine CallX.of (s208 g cmp l (by omega) hcmp) [(1000001, 1000001)] rfl ⟨SV.le_refl _, SV.le_refl _, SV.le_refl _, SV.le_refl _, trivial⟩ ⟨Res.le_refl _, trivial⟩ rfl rfl ?_
  rintro x rout ⟨rfl, c, hc, rfl⟩
  refine ⟨rfl, ?_⟩
  conv => whnf
  refine LoopX.rule hT (C := []) (ι := Unit) (fun _ => True) (fun _ => mkSt [(0, .buf 1000001), (1, .d (.int .i64 l.length)), (2, .fn g []), (6, .d (.int .i64 20))] [(1000001, seqB 140 4 paF pa0 c)]) (fun _ => 0) () trivial (by refine Entails.mk' [(1000001, 1000001)] rfl rfl ?_ ?_ <;> repeat' (first | exact True.intro | exact SV.le_refl _ | exact Res.le_refl _ | exact SV.le_int (by omega) | exact SV.le_any _ | refine And.intro ?_ ?_)) ?_
  rintro ⟨⟩ -
  conv => whnf
  repeat' (first
    | (refine br_intro (fun hb => ?_) (fun hb => ?_) <;> (try simp only [decide_eq_true_eq, decide_eq_false_iff_not, Bool.not_eq_true', Bool.not_eq_false', Bool.and_eq_true, Bool.or_eq_true, beq_iff_eq, not_and, Int.not_le, Int.not_lt, Int.toNat_natCast, beq_eq_false_iff_ne, ne_eq, eq_self, not_true_eq_false, not_false_eq_true] at hb) <;> (conv => whnf))
    | omega
    | (refine And.intro ?_ ?_; ((try dsimp only); first | omega | (refine ⟨by omega, by omega, Int.le_trans (Int.mul_le_mul_of_nonneg_right (Int.ofNat_le.2 (Nat.le_of_ble_eq_true (rfl : Nat.ble _ 1024 = true))) (by omega)) (by omega), by omega⟩) | (refine Nat.le_trans (Nat.mul_le_mul_left _ (Nat.le_of_ble_eq_true (rfl : Nat.ble _ 1024 = true))) ?_; omega) | (unfold inI64; omega) | (constructor <;> omega) | (simp only [inI64, List.length_cons, List.length_append, List.length_nil, List.length_set] at *; omega) | decide | (unfold inI64; decide)); conv => whnf)
    | omega | decide | assumption)
  refine .ret _ ?_
  conv => whnf
  exact ⟨_, ⟨rfl, c, hc, rfl⟩, Res.le_refl _, trivial⟩
theorem s126 (g : FuncId) (cmp : Pas → Pas → Int) (l : List Pas) (hl : l.length < 20)
    (hcmp : ∀ p q, p ∈ l → q ∈ l → FSpec Tryd.prog g [.agg ((paF p).map .d), .agg ((paF q).map .d)] [] (fun y r => y = .d (.int .i64 (cmp p q)) ∧ r = [])) :
    FSpec Tryd.prog 126 [.buf 1000001, .fn g []] [(1000001, seqB 140 4 paF pa0 l)]
      (fun y r => y = .tup [] ∧ ∃ c, sameP l c ∧ r = [(1000001, seqB 140 4 paF pa0 c)]) := by
  refine spec_of hT (C := []) Tryd.func126 rfl Tryd.call126 rfl rfl rfl ?_
  conv => whnf
  repeat' (first
    | (refine br_intro (fun hb => ?_) (fun hb => ?_) <;> (try simp only [decide_eq_true_eq, decide_eq_false_iff_not, Bool.not_eq_true', Bool.not_eq_false', Bool.and_eq_true, Bool.or_eq_true, beq_iff_eq, not_and, Int.not_le, Int.not_lt, Int.toNat_natCast, beq_eq_false_iff_ne, ne_eq, eq_self, not_true_eq_false, not_false_eq_true] at hb) <;> (conv => whnf))
    | omega
    | (refine And.intro ?_ ?_; ((try dsimp only); first | omega | (refine ⟨by omega, by omega, Int.le_trans (Int.mul_le_mul_of_nonneg_right (Int.ofNat_le.2 (Nat.le_of_ble_eq_true (rfl : Nat.ble _ 1024 = true))) (by omega)) (by omega), by omega⟩) | (refine Nat.le_trans (Nat.mul_le_mul_left _ (Nat.le_of_ble_eq_true (rfl : Nat.ble _ 1024 = true))) ?_; omega) | (unfold inI64; omega) | (constructor <;> omega) | (simp only [inI64, List.length_cons, List.length_append, List.length_nil, List.length_set] at *; omega) | decide | (unfold inI64; decide)); conv => whnf)
    | omega | decide | assumption)
  refine CallX.of (s175 g cmp l hl hcmp) [(1000001, 1000001)] rfl ⟨SV.le_refl _, SV.le_refl _, SV.le_refl _, trivial⟩ ⟨Res.le_refl _, trivial⟩ rfl rfl ?_
  rintro x rout ⟨rfl, c, hc, rfl⟩
  refine ⟨rfl, ?_⟩
  conv => whnf
  refine .ret _ ?_
  conv => whnf
  exact ⟨_, ⟨rfl, c, hc, rfl⟩, Res.le_refl _, trivial⟩
-- passages alike
theorem s129 (a b : Pas) (ha : -2^40 ≤ a.tm ∧ a.tm ≤ 2^40) (hb : -2^40 ≤ b.tm ∧ b.tm ≤ 2^40) : FSpec Tryd.prog 129 [.agg ((paF a).map .d), .agg ((paF b).map .d)] [] (fun x r => x = .d (.bool (decide (pasCmp a b = 0))) ∧ r = []) := by
  refine spec_of hT (C := []) Tryd.func129 rfl Tryd.call129 rfl rfl rfl ?_
  conv => whnf
  repeat' (first
    | (refine CallX.exact (s127 a b ha hb) rfl rfl ?_; rotate_right; conv => whnf)
    | (refine br_intro (fun hb => ?_) (fun hb => ?_) <;> (try simp only [decide_eq_true_eq, decide_eq_false_iff_not, Bool.not_eq_true', Bool.not_eq_false', Bool.and_eq_true, Bool.or_eq_true, beq_iff_eq, not_and, Int.not_le, Int.not_lt, Int.toNat_natCast, beq_eq_false_iff_ne, ne_eq, eq_self, not_true_eq_false, not_false_eq_true] at hb) <;> (conv => whnf))
    | omega
    | (refine And.intro ?_ ?_; ((try dsimp only); first | omega | (refine ⟨by omega, by omega, Int.le_trans (Int.mul_le_mul_of_nonneg_right (Int.ofNat_le.2 (Nat.le_of_ble_eq_true (rfl : Nat.ble _ 1024 = true))) (by omega)) (by omega), by omega⟩) | (refine Nat.le_trans (Nat.mul_le_mul_left _ (Nat.le_of_ble_eq_true (rfl : Nat.ble _ 1024 = true))) ?_; omega) | (unfold inI64; omega) | (constructor <;> omega) | (simp only [inI64, List.length_cons, List.length_append, List.length_nil, List.length_set] at *; omega) | decide | (unfold inI64; decide)); conv => whnf)
    | omega | decide | assumption)
  refine .ret _ ?_
  conv => whnf
  refine ⟨[], ⟨?_, rfl⟩, trivial⟩
  conv => lhs; whnf
def subP (l c : List Pas) : Prop := c.length ≤ l.length ∧ ∀ x ∈ c, x ∈ l
-- slices.CompactFunc of passages
theorem s128 (g : FuncId) (eq : Pas → Pas → Bool) (l : List Pas) (hl : l.length ≤ 2^20)
    (heq : ∀ p q, p ∈ l → q ∈ l → FSpec Tryd.prog g [.agg ((paF p).map .d), .agg ((paF q).map .d)] [] (fun y r => y = .d (.bool (eq p q)) ∧ r = [])) :
    FSpec Tryd.prog 128 [.buf 1000001, .fn g []] [(1000001, seqB 140 4 paF pa0 l)]
      (fun y r => ∃ c, subP l c ∧ ∃ d, (d = 1000001 ∨ d = 64) ∧ y = .buf d ∧ r = [(d, seqB 140 4 paF pa0 c)]) := by
  refine spec_of hT (C := []) Tryd.func128 rfl Tryd.call128 rfl rfl rfl ?_
  conv => whnf
  repeat' (first
    | (refine br_intro (fun hb => ?_) (fun hb => ?_) <;> (try simp only [decide_eq_true_eq, decide_eq_false_iff_not, Bool.not_eq_true', Bool.not_eq_false', Bool.and_eq_true, Bool.or_eq_true, beq_iff_eq, not_and, Int.not_le, Int.not_lt, Int.toNat_natCast, beq_eq_false_iff_ne, ne_eq, eq_self, not_true_eq_false, not_false_eq_true] at hb) <;> (conv => whnf))
    | (refine RegX.rule (id := 6) hT rfl [] [(0, []), (1, [0]), (2, [0, 1]), (3, [0]), (4, [0]), (5, [0, 1, 2, 3, 4]), (6, [0, 1, 2, 3, 4, 5]), (7, [0, 1, 2, 3, 4, 5]), (8, [0, 1, 2, 3, 4]), (9, [0, 1, 2, 3, 4]), (10, [])] (by decide +kernel) ?_; conv => whnf)
    | (refine RegX.rule (id := 11) hT rfl [] [(0, []), (1, [0]), (2, [0, 1]), (3, [0]), (4, [0]), (5, [0, 1, 2, 3, 4]), (6, [0, 1, 2, 3, 4, 5]), (7, [0, 1, 2, 3, 4, 5]), (8, [0, 1, 2, 3, 4]), (9, [0, 1, 2, 3, 4]), (10, []), (11, [])] (by decide +kernel) ?_; conv => whnf)
    | omega
    | (refine And.intro ?_ ?_; ((try dsimp only); first | omega | (refine ⟨by omega, by omega, Int.le_trans (Int.mul_le_mul_of_nonneg_right (Int.ofNat_le.2 (Nat.le_of_ble_eq_true (rfl : Nat.ble _ 1024 = true))) (by omega)) (by omega), by omega⟩) | (refine Nat.le_trans (Nat.mul_le_mul_left _ (Nat.le_of_ble_eq_true (rfl : Nat.ble _ 1024 = true))) ?_; omega) | (unfold inI64; omega) | (constructor <;> omega) | (simp only [inI64, List.length_cons, List.length_append, List.length_nil, List.length_set] at *; omega) | decide | (unfold inI64; decide)); conv => whnf)
    | omega | decide | assumption)
  · refine .ret _ ?_
    conv => whnf
    exact ⟨_, ⟨l, ⟨Nat.le_refl _, fun x h => h⟩, 1000001, .inl rfl, rfl, rfl⟩, Res.le_refl _, trivial⟩
  refine LoopX.rule hT (C := []) (ι := Nat) (fun k => 1 ≤ k ∧ k ≤ l.length) (fun k => mkSt [(0, .buf 1000001), (1, .fn g []), (5, .d (.int .i64 k))] [(1000001, seqB 140 4 paF pa0 l)]) (fun k => l.length - k) 1 ⟨by omega, by omega⟩ (by refine Entails.mk' [(1000001, 1000001)] rfl rfl ?_ ?_ <;> repeat' (first | exact True.intro | exact SV.le_refl _ | exact Res.le_refl _ | exact SV.le_int (by omega) | exact SV.le_any _ | refine And.intro ?_ ?_)) ?_
  rintro k ⟨p1, p2⟩
  conv => whnf
  repeat' (first
    | (refine CallX.of (heq (l.getD (k : Int).toNat pa0) (l.getD ((k : Int) - 1).toNat pa0) (getD_mem (by omega)) (getD_mem (by omega))) [] rfl ⟨SV.le_refl _, SV.le_refl _, trivial⟩ trivial rfl rfl ?_; rintro x rout ⟨rfl, rfl⟩; refine ⟨rfl, ?_⟩; conv => whnf)
    | (refine br_intro (fun hb => ?_) (fun hb => ?_) <;> (try simp only [decide_eq_true_eq, decide_eq_false_iff_not, Bool.not_eq_true', Bool.not_eq_false', Bool.and_eq_true, Bool.or_eq_true, beq_iff_eq, not_and, Int.not_le, Int.not_lt, Int.toNat_natCast, beq_eq_false_iff_ne, ne_eq, eq_self, not_true_eq_false, not_false_eq_true] at hb) <;> (conv => whnf))
    | (refine RegX.rule (id := 6) hT rfl [] [(0, []), (1, [0]), (2, [0, 1]), (3, [0]), (4, [0]), (5, [0, 1, 2, 3, 4]), (6, [0, 1, 2, 3, 4, 5]), (7, [0, 1, 2, 3, 4, 5]), (8, [0, 1, 2, 3, 4]), (9, [0, 1, 2, 3, 4]), (10, [])] (by decide +kernel) ?_; conv => whnf)
    | (refine RegX.rule (id := 11) hT rfl [] [(0, []), (1, [0]), (2, [0, 1]), (3, [0]), (4, [0]), (5, [0, 1, 2, 3, 4]), (6, [0, 1, 2, 3, 4, 5]), (7, [0, 1, 2, 3, 4, 5]), (8, [0, 1, 2, 3, 4]), (9, [0, 1, 2, 3, 4]), (10, []), (11, [])] (by decide +kernel) ?_; conv => whnf)
    | omega
    | (refine And.intro ?_ ?_; ((try dsimp only); first | omega | (refine ⟨by omega, by omega, Int.le_trans (Int.mul_le_mul_of_nonneg_right (Int.ofNat_le.2 (Nat.le_of_ble_eq_true (rfl : Nat.ble _ 1024 = true))) (by omega)) (by omega), by omega⟩) | (refine Nat.le_trans (Nat.mul_le_mul_left _ (Nat.le_of_ble_eq_true (rfl : Nat.ble _ 1024 = true))) ?_; omega) | (unfold inI64; omega) | (constructor <;> omega) | (simp only [inI64, List.length_cons, List.length_append, List.length_nil, List.length_set] at *; omega) | decide | (unfold inI64; decide)); conv => whnf)
    | omega | decide | assumption)
  · refine .look rfl ?_
    conv => whnf
    repeat' (first
      | (refine br_intro (fun hb => ?_) (fun hb => ?_) <;> (try simp only [decide_eq_true_eq, decide_eq_false_iff_not, Bool.not_eq_true', Bool.not_eq_false', Bool.and_eq_true, Bool.or_eq_true, beq_iff_eq, not_and, Int.not_le, Int.not_lt, Int.toNat_natCast, beq_eq_false_iff_ne, ne_eq, eq_self, not_true_eq_false, not_false_eq_true] at hb) <;> (conv => whnf))
      | (refine RegX.rule (id := 6) hT rfl [] [(0, []), (1, [0]), (2, [0, 1]), (3, [0]), (4, [0]), (5, [0, 1, 2, 3, 4]), (6, [0, 1, 2, 3, 4, 5]), (7, [0, 1, 2, 3, 4, 5]), (8, [0, 1, 2, 3, 4]), (9, [0, 1, 2, 3, 4]), (10, [])] (by decide +kernel) ?_; conv => whnf)
      | (refine RegX.rule (id := 11) hT rfl [] [(0, []), (1, [0]), (2, [0, 1]), (3, [0]), (4, [0]), (5, [0, 1, 2, 3, 4]), (6, [0, 1, 2, 3, 4, 5]), (7, [0, 1, 2, 3, 4, 5]), (8, [0, 1, 2, 3, 4]), (9, [0, 1, 2, 3, 4]), (10, []), (11, [])] (by decide +kernel) ?_; conv => whnf)
      | omega
      | (refine And.intro ?_ ?_; ((try dsimp only); first | omega | (refine ⟨by omega, by omega, Int.le_trans (Int.mul_le_mul_of_nonneg_right (Int.ofNat_le.2 (Nat.le_of_ble_eq_true (rfl : Nat.ble _ 1024 = true))) (by omega)) (by omega), by omega⟩) | (refine Nat.le_trans (Nat.mul_le_mul_left _ (Nat.le_of_ble_eq_true (rfl : Nat.ble _ 1024 = true))) ?_; omega) | (unfold inI64; omega) | (constructor <;> omega) | (simp only [inI64, List.length_cons, List.length_append, List.length_nil, List.length_set] at *; omega) | decide | (unfold inI64; decide)); conv => whnf)
      | omega | decide | assumption)
    have hsub : SV.le (SV.sub 1000001 4 (k : Int).toNat (((l.length : Nat) : Int) - (k : Int)).toNat) (SV.sub 1000001 4 k (l.length - k)) := by
      rw [show (k : Int).toNat = k by omega, show (((l.length : Nat) : Int) - (k : Int)).toNat = l.length - k by omega]; exact SV.le_refl _
    refine LoopX.rule hT (C := []) (ι := Nat × Nat × List Pas) (fun (q, m, c) => k ≤ q ∧ q < k + m ∧ 1 ≤ m ∧ k + m ≤ l.length ∧ sameP l c)
      (fun (q, m, c) => mkSt [(0, .buf 1000001), (1, .fn g []), (5, .d (.int .i64 q)), (6, .sub 1000001 4 k (l.length - k)), (7, .d (.int .i64 m))] [(1000001, seqB 140 4 paF pa0 c)])
      (fun (_, m, _) => l.length - m) (k, 1, l) ⟨by omega, by omega, by omega, by omega, rfl, fun x h => h⟩ (by refine Entails.mk' [(1000001, 1000001)] rfl rfl ?_ ?_ <;> repeat' (first | exact True.intro | exact SV.le_refl _ | exact Res.le_refl _ | (exact hsub) | exact SV.le_int (by omega) | exact SV.le_any _ | refine And.intro ?_ ?_)) ?_
    rintro ⟨q, m, c⟩ ⟨r1, r2, r3, r4, r5⟩
    have hc0 := r5.1
    conv => whnf
    repeat' (first
      | (refine CallX.of (heq (c.getD (k + (m : Int).toNat) pa0) (c.getD (k + ((m : Int) - 1).toNat) pa0) (r5.2 _ (getD_mem (by omega))) (r5.2 _ (getD_mem (by omega)))) [] rfl ⟨SV.le_refl _, SV.le_refl _, trivial⟩ trivial rfl rfl ?_; rintro x rout ⟨rfl, rfl⟩; refine ⟨rfl, ?_⟩; conv => whnf)
      | (refine SliceX.first (lo := none) rfl ?_; conv => whnf)
      | (refine SliceX.look (lo := some _) rfl ?_; conv => whnf)
      | (refine br_intro (fun hb => ?_) (fun hb => ?_) <;> (try simp only [decide_eq_true_eq, decide_eq_false_iff_not, Bool.not_eq_true', Bool.not_eq_false', Bool.and_eq_true, Bool.or_eq_true, beq_iff_eq, not_and, Int.not_le, Int.not_lt, Int.toNat_natCast, beq_eq_false_iff_ne, ne_eq, eq_self, not_true_eq_false, not_false_eq_true] at hb) <;> (conv => whnf))
      | (refine RegX.rule (id := 6) hT rfl [] [(0, []), (1, [0]), (2, [0, 1]), (3, [0]), (4, [0]), (5, [0, 1, 2, 3, 4]), (6, [0, 1, 2, 3, 4, 5]), (7, [0, 1, 2, 3, 4, 5]), (8, [0, 1, 2, 3, 4]), (9, [0, 1, 2, 3, 4]), (10, [])] (by decide +kernel) ?_; conv => whnf)
      | (refine RegX.rule (id := 11) hT rfl [] [(0, []), (1, [0]), (2, [0, 1]), (3, [0]), (4, [0]), (5, [0, 1, 2, 3, 4]), (6, [0, 1, 2, 3, 4, 5]), (7, [0, 1, 2, 3, 4, 5]), (8, [0, 1, 2, 3, 4]), (9, [0, 1, 2, 3, 4]), (10, []), (11, [])] (by decide +kernel) ?_; conv => whnf)
      | omega
      | (refine And.intro ?_ ?_; ((try dsimp only); first | omega | (refine ⟨by omega, by omega, Int.le_trans (Int.mul_le_mul_of_nonneg_right (Int.ofNat_le.2 (Nat.le_of_ble_eq_true (rfl : Nat.ble _ 1024 = true))) (by omega)) (by omega), by omega⟩) | (refine Nat.le_trans (Nat.mul_le_mul_left _ (Nat.le_of_ble_eq_true (rfl : Nat.ble _ 1024 = true))) ?_; omega) | (unfold inI64; omega) | (constructor <;> omega) | (simp only [inI64, List.length_cons, List.length_append, List.length_nil, List.length_set] at *; omega) | decide | (unfold inI64; decide)); conv => whnf)
      | omega | decide | assumption)
    · have e1 : ∀ z, z = k + (m : Int).toNat → z < l.length → c.getD z pa0 ∈ l := fun z _ h => r5.2 _ (getD_mem (by omega))
      refine ⟨(q + 1, m + 1, _), ⟨by omega, by omega, by omega, by omega, sameP_set r5 (e1 _ rfl (by omega))⟩, by show l.length - (m + 1) < l.length - m; omega, Entails.mk' [(1000001, 1000001)] rfl rfl ⟨SV.le_refl _, SV.le_refl _, SV.le_int (by omega), SV.le_refl _, SV.le_int (by omega), trivial⟩ ⟨Res.le_putF (fun _ _ => rfl), trivial⟩⟩
    · exact ⟨(q, m + 1, c), ⟨by omega, by omega, by omega, by omega, r5⟩, by show l.length - (m + 1) < l.length - m; omega, (by refine Entails.mk' [(1000001, 1000001)] rfl rfl ?_ ?_ <;> repeat' (first | exact True.intro | exact SV.le_refl _ | exact Res.le_refl _ | exact SV.le_int (by omega) | exact SV.le_any _ | refine And.intro ?_ ?_))⟩
    · refine .ret _ ?_
      conv => whnf
      refine ⟨_, ⟨c.take q, ⟨by rw [List.length_take]; omega, fun x hx => r5.2 x (List.mem_of_mem_take hx)⟩, 64, .inr rfl, rfl, rfl⟩, Res.le_buf (by rw [List.length_take]; omega) (fun i hi => ?_), trivial⟩
      have hi : i < q := by
        have : i < (q : Int).toNat := hi
        omega
      have h1 : Nat.ble (q : Int).toNat i = false := by
        rw [← Bool.not_eq_true, Nat.ble_eq]; omega
      show (bif Nat.ble (q : Int).toNat i && _ then _ else rowF paF pa0 c i) = _
      rw [h1]
      simp only [Bool.false_and, cond_false, rowF]
      rw [List.getD_eq_getElem?_getD, List.getD_eq_getElem?_getD, List.getElem?_take_of_lt hi]
  · exact ⟨k + 1, ⟨by omega, by omega⟩, by omega, (by refine Entails.mk' [(1000001, 1000001)] rfl rfl ?_ ?_ <;> repeat' (first | exact True.intro | exact SV.le_refl _ | exact Res.le_refl _ | exact SV.le_int (by omega) | exact SV.le_any _ | refine And.intro ?_ ?_))⟩
  · refine .ret _ ?_
    conv => whnf
    exact ⟨_, ⟨l, ⟨Nat.le_refl _, fun x h => h⟩, 1000001, .inl rfl, rfl, rfl⟩, Res.le_refl _, trivial⟩
end Go.Proofs.YtellmmmohdjpeaaDoor
set_option maxRecDepth 20000
namespace Go.Proofs.YtellmmmohdjpeaaDoor
open Go Go.Eng
def pOk1 (p : Pas) : Prop := p.gate.length ≤ 8 ∧ p.plate.length ≤ 8 ∧ (-2^40 ≤ p.tm ∧ p.tm ≤ 2^40) ∧ -2^40 ≤ p.cents ∧ p.cents ≤ 2^40
def pSh (l : List Pas) (k : Nat) : Prop := l.length ≤ k ∧ ∀ p ∈ l, pOk1 p
theorem pSh_snoc {l : List Pas} {k : Nat} {x : Pas} (h : pSh l k) (hx : pOk1 x) : pSh (l ++ [x]) (k + 1) := by
  refine ⟨by rw [List.length_append]; simpa using h.1, fun p hp => ?_⟩
  rcases List.mem_append.1 hp with q | q
  · exact h.2 p q
  · simp at q; subst q; exact hx
theorem pSh_put {l : List Pas} {k m : Nat} {i : Nat} {x : Pas} (h : pSh l k) (hm : k ≤ m) (hx : i < l.length → pOk1 x) : pSh (l.set i x) m := by
  refine ⟨by have := h.1; rw [List.length_set]; omega, fun p hp => ?_⟩
  by_cases hi : i < l.length
  · rcases List.mem_or_eq_of_mem_set hp with q | q
    · exact h.2 p q
    · subst q; exact hx hi
  · rw [List.set_eq_of_length_le (by omega)] at hp; exact h.2 p hp
theorem mem_bd {l : List Int} {u : Int} (h : u ∈ l) (q : l.all (fun x => decide (-2^40 ≤ x ∧ x ≤ 2^40)) = true) : -2^40 ≤ u ∧ u ≤ 2^40 := by
  have := List.all_eq_true.1 q u h
  exact of_decide_eq_true this
def rowp (d : Nat) (c : List Pas) : List (Nat × Res) := [(d, seqB 140 4 paF pa0 c)]
theorem SV.le_upd {α : Type} {f : α → List DV} {d : α} {l : List α} {k j off : Nat} {ds : List DV} (g : α → α) (hg : ∀ y, setAtD (f y) off ds = f (g y)) :
    SV.le (.d (.ro k l.length fun i => bif Nat.beq i j then setAtD (rowF f d l i) off ds else rowF f d l i)) (.d (seqD k f d (l.set j (g (l.getD j d))))) :=
  SV.le_putF fun y hy => by rw [hg, List.getD_eq_getElem?_getD, hy]; rfl
-- Passages
theorem s63 (n : Nat) (L : Nat → Int) (hL : Rok n L) (a : Int) (h0 : 0 ≤ a) (ha : a ≤ 2^38) (m : Int) (hm1 : 0 ≤ m) (hm2 : m ≤ 12) :
    FSpec Tryd.prog 63 [.ptr 1000000 0, .d (.int .i64 m)] [(1000000, strm n L a)] (fun y r => (∃ l, pSh l m.toNat ∧ y = .d (pass l)) ∧ Moved n L a 60 r) := by
  refine spec_of hT (C := []) Tryd.func63 rfl Tryd.call63 rfl rfl rfl ?_
  conv => whnf
  refine LoopX.rule hT (C := []) (ι := Int × List Pas × Nat) (fun (b, l, k) => (a ≤ b ∧ b ≤ a + 4 * k ∧ (k : Int) ≤ m) ∧ pSh l k)
    (fun (b, l, k) => mkSt [(0, .ptr 1000000 0), (5, .buf 5), (7, .d (.int .i64 m)), (8, .d (.int .i64 k))] [(1000000, strm n L b), (5, seqB 140 4 paF pa0 l)])
    (fun (_, _, k) => 12 - k) (a, [], 0) ⟨⟨by simp, by simp, by simpa using hm1⟩, ⟨by simp, by simp⟩⟩ ?_ ?_
  · exact (Entails.nil 5 5 140 4 (rowF paF pa0 []) rfl rfl (by decide)).trans (by refine Entails.mk' [(1000000, 1000000), (5, 5)] rfl rfl ?_ ?_ <;> repeat' (first | exact True.intro | exact SV.le_refl _ | exact Res.le_refl _ | exact SV.le_int (by omega) | exact SV.le_any _ | refine And.intro ?_ ?_))
  rintro ⟨b, l, k⟩ ⟨⟨p1, p2, p3⟩, q1⟩
  have hl1 := q1.1
  conv => whnf
  repeat' (first
    | (refine CallX.of (s33 n L hL _ ?_ ?_ [5, 10, 60, 62, 66, 72, 100, 105, 150, 300, 1440, 1500, 1501] ?_ ?_) [(1000000, 1000000)] rfl ⟨SV.le_refl _, SV.le_lit rfl rfl, trivial⟩ ⟨Res.le_refl _, trivial⟩ rfl rfl ?_; rotate_right; rintro x rout ⟨⟨u1, hu1, rfl⟩, ⟨c, c1, c2, rfl⟩⟩; refine ⟨rfl, ?_⟩; conv => whnf)
    | (refine CallX.of (s15 n L hL _ ?_ ?_ [[103, 49], [103, 49], [103, 50], [103, 51]] ?_ ?_) [(1000000, 1000000)] rfl ⟨SV.le_refl _, SV.le_lit rfl rfl, trivial⟩ ⟨Res.le_refl _, trivial⟩ rfl rfl ?_; rotate_right; rintro x rout ⟨⟨u2, hu2, rfl⟩, ⟨c, c1, c2, rfl⟩⟩; refine ⟨rfl, ?_⟩; conv => whnf)
    | (refine CallX.of (s15 n L hL _ ?_ ?_ [[65, 66, 49], [65, 66, 49], [65, 66, 50], [90, 90, 57]] ?_ ?_) [(1000000, 1000000)] rfl ⟨SV.le_refl _, SV.le_lit rfl rfl, trivial⟩ ⟨Res.le_refl _, trivial⟩ rfl rfl ?_; rotate_right; rintro x rout ⟨⟨u3, hu3, rfl⟩, ⟨c, c1, c2, rfl⟩⟩; refine ⟨rfl, ?_⟩; conv => whnf)
    | (refine CallX.of (s33 n L hL _ ?_ ?_ [0, 30, 30, 80, 500] ?_ ?_) [(1000000, 1000000)] rfl ⟨SV.le_refl _, SV.le_lit rfl rfl, trivial⟩ ⟨Res.le_refl _, trivial⟩ rfl rfl ?_; rotate_right; rintro x rout ⟨⟨u4, hu4, rfl⟩, ⟨c, c1, c2, rfl⟩⟩; refine ⟨rfl, ?_⟩; conv => whnf)
    | (refine br_intro (fun hb => ?_) (fun hb => ?_) <;> (try simp only [decide_eq_true_eq, decide_eq_false_iff_not, Bool.not_eq_true', Bool.not_eq_false', Bool.and_eq_true, Bool.or_eq_true, beq_iff_eq, not_and, Int.not_le, Int.not_lt, Int.toNat_natCast, beq_eq_false_iff_ne, ne_eq, eq_self, not_true_eq_false, not_false_eq_true] at hb) <;> (conv => whnf))
    | omega
    | (refine And.intro ?_ ?_; ((try dsimp only); first | omega | (refine ⟨by omega, by omega, Int.le_trans (Int.mul_le_mul_of_nonneg_right (Int.ofNat_le.2 (Nat.le_of_ble_eq_true (rfl : Nat.ble _ 1024 = true))) (by omega)) (by omega), by omega⟩) | (refine Nat.le_trans (Nat.mul_le_mul_left _ (Nat.le_of_ble_eq_true (rfl : Nat.ble _ 1024 = true))) ?_; omega) | (unfold inI64; omega) | (constructor <;> omega) | (simp only [inI64, List.length_cons, List.length_append, List.length_nil, List.length_set] at *; omega) | decide | (unfold inI64; decide)); conv => whnf)
    | omega | decide | assumption)
  · refine ⟨(_, _, k + 1), ?_, ?_, Entails.mk' [(1000000, 1000000), (5, 25)] rfl rfl ⟨SV.le_refl _, SV.le_refl _, SV.le_refl _, SV.le_refl _, trivial⟩ ⟨Res.le_refl _, Res.le_snocF (x := ⟨_, _, _, _⟩) rfl, trivial⟩⟩
    · exact ⟨⟨by omega, by omega, by omega⟩, pSh_snoc q1 ⟨mem_len hu2 rfl, mem_len hu3 rfl, mem_bd hu1 rfl, mem_bd hu4 rfl⟩⟩
    · show 12 - (k + 1) < 12 - k; omega
  have hcmp : ∀ l' : List Pas, (∀ x ∈ l', x ∈ l) → ∀ p q, p ∈ l' → q ∈ l' → FSpec Tryd.prog 127 [.agg ((paF p).map .d), .agg ((paF q).map .d)] [] (fun y r => y = .d (.int .i64 (pasCmp p q)) ∧ r = []) :=
    fun l' hs p q hp hq => s127 p q (q1.2 p (hs p hp)).2.2.1 (q1.2 q (hs q hq)).2.2.1
  have heq : ∀ l' : List Pas, (∀ x ∈ l', x ∈ l) → ∀ p q, p ∈ l' → q ∈ l' → FSpec Tryd.prog 129 [.agg ((paF p).map .d), .agg ((paF q).map .d)] [] (fun y r => y = .d (.bool (decide (pasCmp p q = 0))) ∧ r = []) :=
    fun l' hs p q hp hq => s129 p q (q1.2 p (hs p hp)).2.2.1 (q1.2 q (hs q hq)).2.2.1
  refine CallX.of (s126 127 pasCmp l (by omega) (hcmp l fun _ h => h)) [(1000001, 5)] rfl ⟨SV.le_refl _, SV.le_refl _, trivial⟩ ⟨Res.le_refl _, trivial⟩ rfl rfl ?_
  rintro x rout ⟨rfl, c, hc, rfl⟩
  refine ⟨rfl, ?_⟩
  conv => whnf
  repeat' (first
    | (refine br_intro (fun hb => ?_) (fun hb => ?_) <;> (try simp only [decide_eq_true_eq, decide_eq_false_iff_not, Bool.not_eq_true', Bool.not_eq_false', Bool.and_eq_true, Bool.or_eq_true, beq_iff_eq, not_and, Int.not_le, Int.not_lt, Int.toNat_natCast, beq_eq_false_iff_ne, ne_eq, eq_self, not_true_eq_false, not_false_eq_true] at hb) <;> (conv => whnf))
    | omega
    | (refine And.intro ?_ ?_; ((try dsimp only); first | omega | (refine ⟨by omega, by omega, Int.le_trans (Int.mul_le_mul_of_nonneg_right (Int.ofNat_le.2 (Nat.le_of_ble_eq_true (rfl : Nat.ble _ 1024 = true))) (by omega)) (by omega), by omega⟩) | (refine Nat.le_trans (Nat.mul_le_mul_left _ (Nat.le_of_ble_eq_true (rfl : Nat.ble _ 1024 = true))) ?_; omega) | (unfold inI64; omega) | (constructor <;> omega) | (simp only [inI64, List.length_cons, List.length_append, List.length_nil, List.length_set] at *; omega) | decide | (unfold inI64; decide)); conv => whnf)
    | omega | decide | assumption)
  refine CallX.of (s128 129 (fun p q => decide (pasCmp p q = 0)) c (by have := hc.1; omega) (heq c hc.2)) [(1000001, 5), (64, 100)] rfl ⟨SV.le_refl _, SV.le_refl _, trivial⟩ ⟨Res.le_refl _, trivial⟩ rfl rfl ?_
  rintro x rout ⟨e, he, d, hd, rfl, rfl⟩
  have hsh : pSh e m.toNat := ⟨by have := hc.1; have := he.1; omega, fun p hp => q1.2 p (hc.2 p (he.2 p hp))⟩
  have hl2 := hsh.1
  clear hcmp heq
  rcases hd with rfl | rfl
  · refine ⟨rfl, ?_⟩
    conv => whnf
    repeat' (first
      | (refine CallX.of (s84 n L hL _ ?_ ?_ _ ?_) [(1000000, 1000000)] rfl ⟨SV.le_refl _, SV.le_refl _, trivial⟩ ⟨Res.le_refl _, trivial⟩ rfl rfl ?_; rotate_right; rintro x rout ⟨⟨f, rfl⟩, ⟨c, c1, c2, rfl⟩⟩; refine ⟨rfl, ?_⟩; conv => whnf)
      | (refine CallX.of (s86 n L hL _ ?_ ?_ _ ?_) [(1000000, 1000000)] rfl ⟨SV.le_refl _, SV.le_refl _, trivial⟩ ⟨Res.le_refl _, trivial⟩ rfl rfl ?_; rotate_right; rintro x rout ⟨⟨j, hj1, hj2, hj3, rfl⟩, ⟨c, c1, c2, rfl⟩⟩; refine ⟨rfl, ?_⟩; conv => whnf)
      | (refine CallX.of (s104 n L hL _ ?_ ?_ _ _ ?_ ?_ ?_) [(1000000, 1000000)] rfl ⟨SV.le_refl _, SV.le_refl _, SV.le_refl _, trivial⟩ ⟨Res.le_refl _, trivial⟩ rfl rfl ?_; rotate_right; rintro x rout ⟨⟨u5, hk1, hk2, rfl⟩, ⟨c, c1, c2, rfl⟩⟩; refine ⟨rfl, ?_⟩; conv => whnf)
      | (refine CallX.of (s15 n L hL _ ?_ ?_ [[110, 111, 110, 101], [], [65]] ?_ ?_) [(1000000, 1000000)] rfl ⟨SV.le_refl _, SV.le_lit rfl rfl, trivial⟩ ⟨Res.le_refl _, trivial⟩ rfl rfl ?_; rotate_right; rintro x rout ⟨⟨u4, hu4, rfl⟩, ⟨c, c1, c2, rfl⟩⟩; refine ⟨rfl, ?_⟩; conv => whnf)
      | (refine CallX.of (s15 n L hL _ ?_ ?_ [[97], [], [97, 98, 49]] ?_ ?_) [(1000000, 1000000)] rfl ⟨SV.le_refl _, SV.le_lit rfl rfl, trivial⟩ ⟨Res.le_refl _, trivial⟩ rfl rfl ?_; rotate_right; rintro x rout ⟨⟨u4, hu4, rfl⟩, ⟨c, c1, c2, rfl⟩⟩; refine ⟨rfl, ?_⟩; conv => whnf)
      | (refine br_intro (fun hb => ?_) (fun hb => ?_) <;> (try simp only [decide_eq_true_eq, decide_eq_false_iff_not, Bool.not_eq_true', Bool.not_eq_false', Bool.and_eq_true, Bool.or_eq_true, beq_iff_eq, not_and, Int.not_le, Int.not_lt, Int.toNat_natCast, beq_eq_false_iff_ne, ne_eq, eq_self, not_true_eq_false, not_false_eq_true] at hb) <;> (conv => whnf))
      | omega
      | (refine And.intro ?_ ?_; ((try dsimp only); first | omega | (refine ⟨by omega, by omega, Int.le_trans (Int.mul_le_mul_of_nonneg_right (Int.ofNat_le.2 (Nat.le_of_ble_eq_true (rfl : Nat.ble _ 1024 = true))) (by omega)) (by omega), by omega⟩) | (refine Nat.le_trans (Nat.mul_le_mul_left _ (Nat.le_of_ble_eq_true (rfl : Nat.ble _ 1024 = true))) ?_; omega) | (unfold inI64; omega) | (constructor <;> omega) | (simp only [inI64, List.length_cons, List.length_append, List.length_nil, List.length_set] at *; omega) | decide | (unfold inI64; decide)); conv => whnf)
      | omega | decide | assumption)
    all_goals
      refine .freeze _ 5 140 4 _ _ rfl (.weak _ ?_)
      (conv => whnf)
    · refine ⟨_, [(1000000, strm n L _)], SV.le_upd (fun p => ⟨u5, p.gate, p.plate, p.cents⟩) (fun _ => rfl), ⟨⟨_, ?_, rfl⟩, _, by omega, by omega, rfl⟩, Res.le_refl _, trivial⟩
      exact pSh_put hsh (Nat.le_refl _) (fun h => ⟨(hsh.2 _ (getD_mem h)).1, (hsh.2 _ (getD_mem h)).2.1, ⟨hk1, hk2⟩, (hsh.2 _ (getD_mem h)).2.2.2⟩)
    · refine ⟨_, [(1000000, strm n L _)], SV.le_upd (fun p => ⟨p.tm, u4, p.plate, p.cents⟩) (fun _ => rfl), ⟨⟨_, ?_, rfl⟩, _, by omega, by omega, rfl⟩, Res.le_refl _, trivial⟩
      exact pSh_put hsh (Nat.le_refl _) (fun h => ⟨mem_len hu4 rfl, (hsh.2 _ (getD_mem h)).2⟩)
    · refine ⟨_, [(1000000, strm n L _)], SV.le_upd (fun p => ⟨p.tm, p.gate, u4, p.cents⟩) (fun _ => rfl), ⟨⟨_, ?_, rfl⟩, _, by omega, by omega, rfl⟩, Res.le_refl _, trivial⟩
      exact pSh_put hsh (Nat.le_refl _) (fun h => ⟨(hsh.2 _ (getD_mem h)).1, mem_len hu4 rfl, (hsh.2 _ (getD_mem h)).2.2⟩)
    · refine ⟨_, [(1000000, strm n L _)], SV.le_upd (fun p => ⟨p.tm, p.gate, p.plate, u5⟩) (fun _ => rfl), ⟨⟨_, ?_, rfl⟩, _, by omega, by omega, rfl⟩, Res.le_refl _, trivial⟩
      exact pSh_put hsh (Nat.le_refl _) (fun h => ⟨(hsh.2 _ (getD_mem h)).1, (hsh.2 _ (getD_mem h)).2.1, (hsh.2 _ (getD_mem h)).2.2.1, hk1, hk2⟩)
    all_goals exact ⟨_, [(1000000, strm n L _)], SV.le_refl _, ⟨⟨e, hsh, rfl⟩, _, by omega, by omega, rfl⟩, Res.le_refl _, trivial⟩
  · refine ⟨rfl, ?_⟩
    conv => whnf
    repeat' (first
      | (refine CallX.of (s84 n L hL _ ?_ ?_ _ ?_) [(1000000, 1000000)] rfl ⟨SV.le_refl _, SV.le_refl _, trivial⟩ ⟨Res.le_refl _, trivial⟩ rfl rfl ?_; rotate_right; rintro x rout ⟨⟨f, rfl⟩, ⟨c, c1, c2, rfl⟩⟩; refine ⟨rfl, ?_⟩; conv => whnf)
      | (refine CallX.of (s86 n L hL _ ?_ ?_ _ ?_) [(1000000, 1000000)] rfl ⟨SV.le_refl _, SV.le_refl _, trivial⟩ ⟨Res.le_refl _, trivial⟩ rfl rfl ?_; rotate_right; rintro x rout ⟨⟨j, hj1, hj2, hj3, rfl⟩, ⟨c, c1, c2, rfl⟩⟩; refine ⟨rfl, ?_⟩; conv => whnf)
      | (refine CallX.of (s104 n L hL _ ?_ ?_ _ _ ?_ ?_ ?_) [(1000000, 1000000)] rfl ⟨SV.le_refl _, SV.le_refl _, SV.le_refl _, trivial⟩ ⟨Res.le_refl _, trivial⟩ rfl rfl ?_; rotate_right; rintro x rout ⟨⟨u5, hk1, hk2, rfl⟩, ⟨c, c1, c2, rfl⟩⟩; refine ⟨rfl, ?_⟩; conv => whnf)
      | (refine CallX.of (s15 n L hL _ ?_ ?_ [[110, 111, 110, 101], [], [65]] ?_ ?_) [(1000000, 1000000)] rfl ⟨SV.le_refl _, SV.le_lit rfl rfl, trivial⟩ ⟨Res.le_refl _, trivial⟩ rfl rfl ?_; rotate_right; rintro x rout ⟨⟨u4, hu4, rfl⟩, ⟨c, c1, c2, rfl⟩⟩; refine ⟨rfl, ?_⟩; conv => whnf)
      | (refine CallX.of (s15 n L hL _ ?_ ?_ [[97], [], [97, 98, 49]] ?_ ?_) [(1000000, 1000000)] rfl ⟨SV.le_refl _, SV.le_lit rfl rfl, trivial⟩ ⟨Res.le_refl _, trivial⟩ rfl rfl ?_; rotate_right; rintro x rout ⟨⟨u4, hu4, rfl⟩, ⟨c, c1, c2, rfl⟩⟩; refine ⟨rfl, ?_⟩; conv => whnf)
      | (refine br_intro (fun hb => ?_) (fun hb => ?_) <;> (try simp only [decide_eq_true_eq, decide_eq_false_iff_not, Bool.not_eq_true', Bool.not_eq_false', Bool.and_eq_true, Bool.or_eq_true, beq_iff_eq, not_and, Int.not_le, Int.not_lt, Int.toNat_natCast, beq_eq_false_iff_ne, ne_eq, eq_self, not_true_eq_false, not_false_eq_true] at hb) <;> (conv => whnf))
      | omega
      | (refine And.intro ?_ ?_; ((try dsimp only); first | omega | (refine ⟨by omega, by omega, Int.le_trans (Int.mul_le_mul_of_nonneg_right (Int.ofNat_le.2 (Nat.le_of_ble_eq_true (rfl : Nat.ble _ 1024 = true))) (by omega)) (by omega), by omega⟩) | (refine Nat.le_trans (Nat.mul_le_mul_left _ (Nat.le_of_ble_eq_true (rfl : Nat.ble _ 1024 = true))) ?_; omega) | (unfold inI64; omega) | (constructor <;> omega) | (simp only [inI64, List.length_cons, List.length_append, List.length_nil, List.length_set] at *; omega) | decide | (unfold inI64; decide)); conv => whnf)
      | omega | decide | assumption)
    all_goals
      refine .freeze _ 100 140 4 _ _ rfl (.weak _ ?_)
      (conv => whnf)
    · refine ⟨_, [(1000000, strm n L _)], SV.le_upd (fun p => ⟨u5, p.gate, p.plate, p.cents⟩) (fun _ => rfl), ⟨⟨_, ?_, rfl⟩, _, by omega, by omega, rfl⟩, Res.le_refl _, trivial⟩
      exact pSh_put hsh (Nat.le_refl _) (fun h => ⟨(hsh.2 _ (getD_mem h)).1, (hsh.2 _ (getD_mem h)).2.1, ⟨hk1, hk2⟩, (hsh.2 _ (getD_mem h)).2.2.2⟩)
    · refine ⟨_, [(1000000, strm n L _)], SV.le_upd (fun p => ⟨p.tm, u4, p.plate, p.cents⟩) (fun _ => rfl), ⟨⟨_, ?_, rfl⟩, _, by omega, by omega, rfl⟩, Res.le_refl _, trivial⟩
      exact pSh_put hsh (Nat.le_refl _) (fun h => ⟨mem_len hu4 rfl, (hsh.2 _ (getD_mem h)).2⟩)
    · refine ⟨_, [(1000000, strm n L _)], SV.le_upd (fun p => ⟨p.tm, p.gate, u4, p.cents⟩) (fun _ => rfl), ⟨⟨_, ?_, rfl⟩, _, by omega, by omega, rfl⟩, Res.le_refl _, trivial⟩
      exact pSh_put hsh (Nat.le_refl _) (fun h => ⟨(hsh.2 _ (getD_mem h)).1, mem_len hu4 rfl, (hsh.2 _ (getD_mem h)).2.2⟩)
    · refine ⟨_, [(1000000, strm n L _)], SV.le_upd (fun p => ⟨p.tm, p.gate, p.plate, u5⟩) (fun _ => rfl), ⟨⟨_, ?_, rfl⟩, _, by omega, by omega, rfl⟩, Res.le_refl _, trivial⟩
      exact pSh_put hsh (Nat.le_refl _) (fun h => ⟨(hsh.2 _ (getD_mem h)).1, (hsh.2 _ (getD_mem h)).2.1, (hsh.2 _ (getD_mem h)).2.2.1, hk1, hk2⟩)
    all_goals exact ⟨_, [(1000000, strm n L _)], SV.le_refl _, ⟨⟨e, hsh, rfl⟩, _, by omega, by omega, rfl⟩, Res.le_refl _, trivial⟩
end Go.Proofs.YtellmmmohdjpeaaDoor
set_option maxRecDepth 20000
namespace Go.Proofs.YtellmmmohdjpeaaDoor
open Go Go.Eng
abbrev swM (m : Seen → Option Int) : Seen → Option Int := fun q => m (q.2, q.1)
-- Q.DoublesOf
theorem s68 (D C F : Int) (l : List Pas) (hl : l.length ≤ 1000) (hp : ∀ p ∈ l, 0 ≤ p.tm ∧ p.tm ≤ 5761439) :
    FSpec Tryd.prog 68 [.agg [.d (.int .i64 D), .d (.int .i64 C), .d (.int .i64 F)], .d (pass l)] [] (fun x r => x = .d (ints (dblIx D l l.length)) ∧ r = []) := by
  refine spec_of hT (C := []) Tryd.func68 rfl Tryd.call68 rfl rfl rfl ?_
  conv => whnf
  refine LoopX.rule hT (C := []) (ι := Nat) (fun i => i ≤ l.length) (fun i => mkSt [(2, .ptr 2 0), (5, .mp 5), (6, .buf 6), (13, .d (pass l)), (14, .d (.int .i64 l.length)), (15, .d (.int .i64 i))] [(2, .cells 27 [.d (.int .i64 D), .d (.int .i64 C), .d (.int .i64 F)]), (5, seenR (swM (dblM D l i))), (6, seqB 3 1 iF 0 (dblIx D l i))]) (fun i => l.length - i) 0 (by omega) ?_ ?_
  · refine (Entails.nil 6 6 3 1 (rowF iF 0 []) rfl rfl (by decide)).trans (Entails.mk' [(2, 2), (5, 12), (6, 6)] rfl rfl ⟨SV.le_refl _, SV.le_refl _, SV.le_refl _, SV.le_refl _, SV.le_refl _, SV.le_refl _, trivial⟩ ⟨Res.le_refl _, Res.le_map (fun key hk => ?_), Res.le_refl _, trivial⟩)
    obtain ⟨a, b, rfl⟩ := wk_ss hk
    exact ⟨rfl, rfl⟩
  rintro i p1
  have e1 : (i : Int).toNat = i := Int.toNat_natCast i
  have hpi : (i : Int) < l.length → 0 ≤ (l.getD (i : Int).toNat pa0).tm ∧ (l.getD (i : Int).toNat pa0).tm ≤ 5761439 := fun hi => hp _ (getD_mem (by omega))
  have hdl := dblIx_len (D := D) (l := l) (n := i)
  have hm : ∀ q, 0 ≤ (dblM D l i q).getD 0 ∧ (dblM D l i q).getD 0 ≤ 5761439 := fun q => by
    cases hq : dblM D l i q with
    | none => simp
    | some t => simpa using dblM_bd hp i p1 q t hq
  have hm0 : 0 ≤ (swM (dblM D l i) ((l.getD (i : Int).toNat pa0).gate, (l.getD (i : Int).toNat pa0).plate)).getD 0 ∧ (swM (dblM D l i) ((l.getD (i : Int).toNat pa0).gate, (l.getD (i : Int).toNat pa0).plate)).getD 0 ≤ 5761439 := hm ((l.getD (i : Int).toNat pa0).plate, (l.getD (i : Int).toNat pa0).gate)
  conv => whnf
  repeat' (first
    | (refine And.intro (rfl : zrow _ = some [DV.int .i64 0]) ?_; conv => whnf)
    | (simp only [Nat.beq_refl, cond_true]; conv => whnf)
    | (refine br_intro (fun hb => ?_) (fun hb => ?_) <;> (try simp only [decide_eq_true_eq, decide_eq_false_iff_not, Bool.not_eq_true', Bool.not_eq_false', Bool.and_eq_true, Bool.or_eq_true, beq_iff_eq, not_and, Int.not_le, Int.not_lt, Int.toNat_natCast, beq_eq_false_iff_ne, ne_eq, eq_self, not_true_eq_false, not_false_eq_true] at hb) <;> (conv => whnf))
    | omega
    | (refine And.intro ?_ ?_; ((try dsimp only); first | omega | (refine ⟨by omega, by omega, Int.le_trans (Int.mul_le_mul_of_nonneg_right (Int.ofNat_le.2 (Nat.le_of_ble_eq_true (rfl : Nat.ble _ 1024 = true))) (by omega)) (by omega), by omega⟩) | (refine Nat.le_trans (Nat.mul_le_mul_left _ (Nat.le_of_ble_eq_true (rfl : Nat.ble _ 1024 = true))) ?_; omega) | (unfold inI64; omega) | (constructor <;> omega) | (simp only [inI64, List.length_cons, List.length_append, List.length_nil, List.length_set] at *; omega) | decide | (unfold inI64; decide)); conv => whnf)
    | omega | decide | assumption)
  · rename_i hb1
    have hB : dblB D l i = true := by rw [dblB_eq, decide_eq_true hb, Bool.and_true]; exact hb1
    refine ⟨i + 1, by omega, by omega, Entails.mk' [(2, 2), (5, 5), (6, 44)] rfl rfl ⟨SV.le_refl _, SV.le_refl _, SV.le_refl _, SV.le_refl _, SV.le_refl _, SV.le_refl _, trivial⟩ ⟨Res.le_refl _, ?_, ?_, trivial⟩⟩
    · have : dblM D l (i + 1) = dblM D l i := by rw [dblM]; exact if_pos hB
      rw [this]; exact Res.le_refl _
    · rw [dblIx_succ, if_pos hB]; exact Res.le_snocF (by rfl)
  · rename_i hb1
    have hB : dblB D l i = false := by rw [dblB_eq, decide_eq_false (Int.not_lt.2 hb), Bool.and_false]
    have hM : ∀ a b, swM (dblM D l (i + 1)) (a, b) = if a = (l.getD i pa0).gate ∧ b = (l.getD i pa0).plate then some (l.getD i pa0).tm else swM (dblM D l i) (a, b) := fun a b => by
      show dblM D l (i + 1) (b, a) = _
      rw [dblM, if_neg (by show ¬ dblB D l i = true; rw [hB]; simp)]
      simp [Prod.ext_iff, and_comm]
    refine ⟨i + 1, by omega, by omega, Entails.mk' [(2, 2), (5, 5), (6, 6)] rfl rfl ⟨SV.le_refl _, SV.le_refl _, SV.le_refl _, SV.le_refl _, SV.le_refl _, SV.le_refl _, trivial⟩ ⟨Res.le_refl _, Res.le_map (fun key hk => ?_), ?_, trivial⟩⟩
    · obtain ⟨a, b, rfl⟩ := wk_ss hk
      rw [e1]
      simp only [keyEq, keyEq1, Bool.and_true, mHas, mVal, hM]
      by_cases hab : a = (l.getD i pa0).gate ∧ b = (l.getD i pa0).plate
      · rw [if_pos hab, hab.1, hab.2]; simp
      · rw [if_neg hab]
        have : (a == (l.getD i pa0).gate && b == (l.getD i pa0).plate) = false := by
          cases hq : (a == (l.getD i pa0).gate && b == (l.getD i pa0).plate) with
          | false => rfl
          | true => simp at hq; exact absurd hq hab
        rw [this]; simp
    · rw [dblIx_succ, if_neg (by rw [hB]; simp), List.append_nil]; exact Res.le_refl _
  · have hB : dblB D l i = false := by
      rw [dblB_eq, Bool.and_eq_false_iff]; exact .inl hb
    have hM : ∀ a b, swM (dblM D l (i + 1)) (a, b) = if a = (l.getD i pa0).gate ∧ b = (l.getD i pa0).plate then some (l.getD i pa0).tm else swM (dblM D l i) (a, b) := fun a b => by
      show dblM D l (i + 1) (b, a) = _
      rw [dblM, if_neg (by show ¬ dblB D l i = true; rw [hB]; simp)]
      simp [Prod.ext_iff, and_comm]
    refine ⟨i + 1, by omega, by omega, Entails.mk' [(2, 2), (5, 5), (6, 6)] rfl rfl ⟨SV.le_refl _, SV.le_refl _, SV.le_refl _, SV.le_refl _, SV.le_refl _, SV.le_refl _, trivial⟩ ⟨Res.le_refl _, Res.le_map (fun key hk => ?_), ?_, trivial⟩⟩
    · obtain ⟨a, b, rfl⟩ := wk_ss hk
      rw [e1]
      simp only [keyEq, keyEq1, Bool.and_true, mHas, mVal, hM]
      by_cases hab : a = (l.getD i pa0).gate ∧ b = (l.getD i pa0).plate
      · rw [if_pos hab, hab.1, hab.2]; simp
      · rw [if_neg hab]
        have : (a == (l.getD i pa0).gate && b == (l.getD i pa0).plate) = false := by
          cases hq : (a == (l.getD i pa0).gate && b == (l.getD i pa0).plate) with
          | false => rfl
          | true => simp at hq; exact absurd hq hab
        rw [this]; simp
    · rw [dblIx_succ, if_neg (by rw [hB]; simp), List.append_nil]; exact Res.le_refl _
  · have : i = l.length := by omega
    subst this
    refine .freeze _ 6 3 1 _ _ rfl ?_
    refine .ret _ ?_
    conv => whnf
    refine ⟨[], ⟨?_, rfl⟩, trivial⟩
    conv => lhs; whnf
end Go.Proofs.YtellmmmohdjpeaaDoor
set_option maxRecDepth 20000
namespace Go.Proofs.YtellmmmohdjpeaaDoor
open Go Go.Eng
-- PassagesDouble
theorem s8 (n : Nat) (L : Nat → Int) (hn : n ≤ maxLen) (hl : ∀ i, -2^63 ≤ L i ∧ L i < 2^63) : FSpec Tryd.prog 8 [.d (.ro 1 n fun i => [.int .i64 (L i)])] [] (fun x r => x = .d (.bool true) ∧ r = []) := by
  have hL : Rok n L := ⟨hn, hl⟩
  refine spec_of hT (C := []) Tryd.func8 rfl Tryd.call8 rfl rfl rfl ?_
  conv => whnf
  repeat' (first
    | (refine CallX.of (s62 n L hL _ ?_ ?_ ) [(1000000, 12)] rfl ⟨SV.le_refl _, trivial⟩ ⟨Res.le_refl _, trivial⟩ rfl rfl ?_; rotate_right; rintro x rout ⟨⟨g, q1, rfl⟩, ⟨c, c1, c2, rfl⟩⟩; refine ⟨rfl, ?_⟩; conv => whnf)
    | (refine CallX.of (s13 n L hL _ ?_ ?_ ) [(1000000, 12)] rfl ⟨SV.le_refl _, trivial⟩ ⟨Res.le_refl _, trivial⟩ rfl rfl ?_; rotate_right; rintro x rout ⟨⟨D, C, F, rfl⟩, ⟨c, c1, c2, rfl⟩⟩; refine ⟨rfl, ?_⟩; conv => whnf)
    | (refine CallX.of (s64 n L hL _ ?_ ?_ _ _ ?_ ?_ ?_ ?_) [(1000000, 12)] rfl ⟨SV.le_refl _, SV.le_refl _, SV.le_refl _, trivial⟩ ⟨Res.le_refl _, trivial⟩ rfl rfl ?_; rotate_right; rintro x rout ⟨⟨m, hm1, hm2, rfl⟩, ⟨c, c1, c2, rfl⟩⟩; refine ⟨rfl, ?_⟩; conv => whnf)
    | (refine CallX.of (s63 n L hL _ ?_ ?_ m ?_ ?_) [(1000000, 12)] rfl ⟨SV.le_refl _, SV.le_refl _, trivial⟩ ⟨Res.le_refl _, trivial⟩ rfl rfl ?_; rotate_right; rintro x rout ⟨⟨l, q2, rfl⟩, ⟨c, c1, c2, rfl⟩⟩; refine ⟨rfl, ?_⟩; conv => whnf)
    | (refine br_intro (fun hb => ?_) (fun hb => ?_) <;> (try simp only [decide_eq_true_eq, decide_eq_false_iff_not, Bool.not_eq_true', Bool.not_eq_false', Bool.and_eq_true, Bool.or_eq_true, beq_iff_eq, not_and, Int.not_le, Int.not_lt, Int.toNat_natCast, beq_eq_false_iff_ne, ne_eq, eq_self, not_true_eq_false, not_false_eq_true] at hb) <;> (conv => whnf))
    | omega
    | (refine And.intro ?_ ?_; ((try dsimp only); first | omega | (refine ⟨by omega, by omega, Int.le_trans (Int.mul_le_mul_of_nonneg_right (Int.ofNat_le.2 (Nat.le_of_ble_eq_true (rfl : Nat.ble _ 1024 = true))) (by omega)) (by omega), by omega⟩) | (refine Nat.le_trans (Nat.mul_le_mul_left _ (Nat.le_of_ble_eq_true (rfl : Nat.ble _ 1024 = true))) ?_; omega) | (unfold inI64; omega) | (constructor <;> omega) | (simp only [inI64, List.length_cons, List.length_append, List.length_nil, List.length_set] at *; omega) | decide | (unfold inI64; decide)); conv => whnf)
    | omega | decide | assumption)
  have hg : gOk g := ⟨by have := q1.1; omega, fun p hp => by have := q1.2 p hp; omega⟩
  have hl : pOk l := ⟨by have := q2.1; omega, fun p hp => by have := q2.2 p hp; unfold pOk1 at this; omega⟩
  have h65 := s65 g D C F l hg hl
  have h18 := s18 D C F
  have h66 := s66 D C F
  have h67 := s67 g l hg hl
  have hE : firstE [tollE D C F, chkE g l] = dblsE D C F g l := rfl
  by_cases hF : dblsE D C F g l = 0
  · rw [if_pos hF, hF] at h65
    rw [hF] at hE
    have hz : chkE g l = 0 := by simp only [dblsE, firstE] at hF; grind
    obtain ⟨_, n3, n4⟩ := chk_zero hz
    have h68 := s68 D C F l n3 n4
    have h37 := s37 (dblIx D l l.length) (dblIx D l l.length) (by have := dblIx_len (D := D) (l := l) (n := l.length); omega) (by have := dblIx_len (D := D) (l := l) (n := l.length); omega)
    repeat' (first
      | (refine CallX.exact (h65) rfl rfl ?_; rotate_right; conv => whnf)
      | (refine CallX.exact (h18) rfl rfl ?_; rotate_right; conv => whnf)
      | (refine CallX.exact (h66) rfl rfl ?_; rotate_right; conv => whnf)
      | (refine CallX.exact (h67) rfl rfl ?_; rotate_right; conv => whnf)
      | (refine CallX.pure (s17 [_, _] (by simp)) ⟨SV.le_lit (by rfl) (by rfl), trivial⟩ rfl ?_; conv => whnf)
      | (refine CallX.exact (h68) rfl rfl ?_; rotate_right; conv => whnf)
      | (refine CallX.exact (h37) rfl rfl ?_; rotate_right; conv => whnf)
      | (refine CallX.exact (s24) rfl rfl ?_; rotate_right; conv => whnf)
      | (refine br_intro (fun hb => ?_) (fun hb => ?_) <;> (try simp only [decide_eq_true_eq, decide_eq_false_iff_not, Bool.not_eq_true', Bool.not_eq_false', Bool.and_eq_true, Bool.or_eq_true, beq_iff_eq, not_and, Int.not_le, Int.not_lt, Int.toNat_natCast, beq_eq_false_iff_ne, ne_eq, eq_self, not_true_eq_false, not_false_eq_true] at hb) <;> (conv => whnf))
      | omega
      | (refine And.intro ?_ ?_; ((try dsimp only); first | omega | (refine ⟨by omega, by omega, Int.le_trans (Int.mul_le_mul_of_nonneg_right (Int.ofNat_le.2 (Nat.le_of_ble_eq_true (rfl : Nat.ble _ 1024 = true))) (by omega)) (by omega), by omega⟩) | (refine Nat.le_trans (Nat.mul_le_mul_left _ (Nat.le_of_ble_eq_true (rfl : Nat.ble _ 1024 = true))) ?_; omega) | (unfold inI64; omega) | (constructor <;> omega) | (simp only [inI64, List.length_cons, List.length_append, List.length_nil, List.length_set] at *; omega) | decide | (unfold inI64; decide)); conv => whnf)
      | omega | decide | assumption)
    all_goals first
      | exact absurd hE (by assumption)
      | (refine .ret _ ?_
         conv => whnf
         refine ⟨[], ⟨?_, rfl⟩, trivial⟩
         conv => lhs; whnf
         all_goals (first | rfl | simp [hE]))
  · rw [if_neg hF] at h65
    generalize dblsE D C F g l = e at h65 hE hF
    repeat' (first
      | (refine CallX.exact (h65) rfl rfl ?_; rotate_right; conv => whnf)
      | (refine CallX.exact (h18) rfl rfl ?_; rotate_right; conv => whnf)
      | (refine CallX.exact (h66) rfl rfl ?_; rotate_right; conv => whnf)
      | (refine CallX.exact (h67) rfl rfl ?_; rotate_right; conv => whnf)
      | (refine CallX.pure (s17 [_, _] (by simp)) ⟨SV.le_lit (by rfl) (by rfl), trivial⟩ rfl ?_; conv => whnf)
      | (refine CallX.exact (s24) rfl rfl ?_; rotate_right; conv => whnf)
      | (refine br_intro (fun hb => ?_) (fun hb => ?_) <;> (try simp only [decide_eq_true_eq, decide_eq_false_iff_not, Bool.not_eq_true', Bool.not_eq_false', Bool.and_eq_true, Bool.or_eq_true, beq_iff_eq, not_and, Int.not_le, Int.not_lt, Int.toNat_natCast, beq_eq_false_iff_ne, ne_eq, eq_self, not_true_eq_false, not_false_eq_true] at hb) <;> (conv => whnf))
      | omega
      | (refine And.intro ?_ ?_; ((try dsimp only); first | omega | (refine ⟨by omega, by omega, Int.le_trans (Int.mul_le_mul_of_nonneg_right (Int.ofNat_le.2 (Nat.le_of_ble_eq_true (rfl : Nat.ble _ 1024 = true))) (by omega)) (by omega), by omega⟩) | (refine Nat.le_trans (Nat.mul_le_mul_left _ (Nat.le_of_ble_eq_true (rfl : Nat.ble _ 1024 = true))) ?_; omega) | (unfold inI64; omega) | (constructor <;> omega) | (simp only [inI64, List.length_cons, List.length_append, List.length_nil, List.length_set] at *; omega) | decide | (unfold inI64; decide)); conv => whnf)
      | omega | decide | assumption)
    all_goals first
      | exact absurd (hE.symm.trans (by assumption)) hF
      | (refine .ret _ ?_
         conv => whnf
         refine ⟨[], ⟨?_, rfl⟩, trivial⟩
         conv => lhs; whnf
         all_goals (first | rfl | simp [hE]))
end Go.Proofs.YtellmmmohdjpeaaDoor
