/- MarksApart is proved: for every input the law returns true, and its argument reads afterwards as it read before. Conditions: those of the given row alone. -/
import Derived.Test.YtnkdlkgannnfhaaGreatDoorMaConTwo
import Derived.Test.YtnkdlkgannnfhaaGreatDoorMaConOne
import Derived.Test.YtnkdlkgannnfhaaGreatDoorMaEngTwo
set_option linter.unusedVariables false
set_option linter.unusedSimpArgs false
set_option maxRecDepth 20000
namespace Go.Proofs.YtnkdlkgannnfhaaGreatDoor
open Go Go.Eng
def mBd (m : Mrk) : Prop := 0 ≤ m.x ∧ m.x ≤ 5000 ∧ 0 ≤ m.y ∧ m.y ≤ 5000 ∧ 1 ≤ m.size ∧ m.size ≤ 2000
def rBd (r : Rul) : Prop := 0 ≤ r.near ∧ r.near ≤ 5000 ∧ 0 ≤ r.slack ∧ r.slack ≤ 2000 ∧ 0 ≤ r.join ∧ r.join ≤ 5000 ∧ 0 ≤ r.part ∧ r.part ≤ 1000
theorem sq_bd {x : Int} (h1 : -5000 ≤ x) (h2 : x ≤ 5000) : 0 ≤ x * x ∧ x * x ≤ 25000000 := by
  rcases Int.le_total 0 x with q | q
  · exact ⟨Int.mul_nonneg q q, Int.le_trans (Int.mul_le_mul h2 h2 q (by omega)) (by omega)⟩
  · have e : x * x = (-x) * (-x) := by rw [Int.neg_mul_neg]
    rw [e]
    exact ⟨Int.mul_nonneg (by omega) (by omega), Int.le_trans (Int.mul_le_mul (by omega : -x ≤ 5000) (by omega : -x ≤ 5000) (by omega) (by omega)) (by omega)⟩
-- mark.distance
theorem z149 (a b : Mrk) (ha : mBd a) (hb1 : mBd b) : FSpec Tryz.prog 149 [.agg ((mkF a).map .d), .agg ((mkF b).map .d)] [] (fun x r => x = .d (.int .i64 (distM a b)) ∧ r = []) := by
  unfold mBd at ha hb1
  have h1 := sq_bd (x := a.x - b.x) (by omega) (by omega)
  have h2 := sq_bd (x := a.y - b.y) (by omega) (by omega)
  refine spec_of hT (C := []) Tryz.func149 rfl Tryz.call149 rfl rfl rfl ?_
  conv => whnf
  repeat' (first
    | (refine br_intro (fun hb => ?_) (fun hb => ?_) <;> (try simp only [decide_eq_true_eq, decide_eq_false_iff_not, Bool.not_eq_true', Bool.not_eq_false', Bool.and_eq_true, Bool.or_eq_true, beq_iff_eq, not_and, Int.not_le, Int.not_lt, Int.toNat_natCast, beq_eq_false_iff_ne, ne_eq, eq_self, not_true_eq_false, not_false_eq_true] at hb) <;> (conv => whnf))
    | omega
    | (refine And.intro ?_ ?_; ((try dsimp only); first | omega | (refine ⟨by omega, by omega, Int.le_trans (Int.mul_le_mul_of_nonneg_right (Int.ofNat_le.2 (Nat.le_of_ble_eq_true (rfl : Nat.ble _ 1024 = true))) (by omega)) (by omega), by omega⟩) | (refine Nat.le_trans (Nat.mul_le_mul_left _ (Nat.le_of_ble_eq_true (rfl : Nat.ble _ 1024 = true))) ?_; omega) | (unfold inI64; omega) | (constructor <;> omega) | (simp only [inI64, List.length_cons, List.length_append, List.length_nil, List.length_set] at *; omega) | decide | (unfold inI64; decide)); conv => whnf)
    | omega | decide | assumption)
  refine .ret _ ?_
  conv => whnf
  refine ⟨[], ⟨?_, rfl⟩, trivial⟩
  conv => lhs; whnf
  rfl
-- Distance
theorem z152 (a b : Mrk) (ha : mBd a) (hb1 : mBd b) : FSpec Tryz.prog 152 [.agg ((mkF a).map .d), .agg ((mkF b).map .d)] [] (fun x r => x = .d (.int .i64 (distM a b)) ∧ r = []) := by
  unfold mBd at ha hb1
  have h1 := sq_bd (x := a.x - b.x) (by omega) (by omega)
  have h2 := sq_bd (x := a.y - b.y) (by omega) (by omega)
  refine spec_of hT (C := []) Tryz.func152 rfl Tryz.call152 rfl rfl rfl ?_
  conv => whnf
  repeat' (first
    | (refine br_intro (fun hb => ?_) (fun hb => ?_) <;> (try simp only [decide_eq_true_eq, decide_eq_false_iff_not, Bool.not_eq_true', Bool.not_eq_false', Bool.and_eq_true, Bool.or_eq_true, beq_iff_eq, not_and, Int.not_le, Int.not_lt, Int.toNat_natCast, beq_eq_false_iff_ne, ne_eq, eq_self, not_true_eq_false, not_false_eq_true] at hb) <;> (conv => whnf))
    | omega
    | (refine And.intro ?_ ?_; ((try dsimp only); first | omega | (refine ⟨by omega, by omega, Int.le_trans (Int.mul_le_mul_of_nonneg_right (Int.ofNat_le.2 (Nat.le_of_ble_eq_true (rfl : Nat.ble _ 1024 = true))) (by omega)) (by omega), by omega⟩) | (refine Nat.le_trans (Nat.mul_le_mul_left _ (Nat.le_of_ble_eq_true (rfl : Nat.ble _ 1024 = true))) ?_; omega) | (unfold inI64; omega) | (constructor <;> omega) | (simp only [inI64, List.length_cons, List.length_append, List.length_nil, List.length_set] at *; omega) | decide | (unfold inI64; decide)); conv => whnf)
    | omega | decide | assumption)
  refine .ret _ ?_
  conv => whnf
  refine ⟨[], ⟨?_, rfl⟩, trivial⟩
  conv => lhs; whnf
  rfl
-- mark.canBe
theorem z148 (r : Rul) (a b : Mrk) (hr : rBd r) (ha : mBd a) (hb1 : mBd b) : FSpec Tryz.prog 148 [.agg ((ruF r).map .d), .agg ((mkF a).map .d), .agg ((mkF b).map .d)] [] (fun x r' => x = .d (.bool (canB r a b)) ∧ r' = []) := by
  have hd := z149 a b ha hb1
  have h1 := sq_bd (x := r.near) (by unfold rBd at hr; omega) (by unfold rBd at hr; omega)
  unfold mBd at ha hb1
  unfold rBd at hr
  refine spec_of hT (C := []) Tryz.func148 rfl Tryz.call148 rfl rfl rfl ?_
  conv => whnf
  repeat' (first
    | (refine CallX.exact (hd) rfl rfl ?_; rotate_right; conv => whnf)
    | (refine br_intro (fun hb => ?_) (fun hb => ?_) <;> (try simp only [decide_eq_true_eq, decide_eq_false_iff_not, Bool.not_eq_true', Bool.not_eq_false', Bool.and_eq_true, Bool.or_eq_true, beq_iff_eq, not_and, Int.not_le, Int.not_lt, Int.toNat_natCast, beq_eq_false_iff_ne, ne_eq, eq_self, not_true_eq_false, not_false_eq_true] at hb) <;> (conv => whnf))
    | (refine RegX.rule (id := 1) hT rfl [] [(0, []), (1, []), (2, [0, 1]), (3, [0, 1]), (4, []), (5, []), (6, []), (7, []), (8, [6, 7]), (9, [6, 7]), (10, []), (11, []), (12, []), (13, []), (14, [13]), (16, [13, 14]), (17, [13, 14]), (18, [13, 14, 16, 17]), (19, [13, 14, 16, 17]), (20, [13, 14]), (15, [16, 17, 18, 19, 20]), (21, []), (22, []), (23, []), (24, []), (25, []), (26, [24, 25]), (27, [24, 25]), (28, [24, 25, 26, 27]), (29, [24, 25, 26, 27]), (30, [24, 25]), (31, []), (32, []), (33, [])] (by decide +kernel) ?_; conv => whnf)
    | omega
    | (refine And.intro ?_ ?_; ((try dsimp only); first | omega | (refine ⟨by omega, by omega, Int.le_trans (Int.mul_le_mul_of_nonneg_right (Int.ofNat_le.2 (Nat.le_of_ble_eq_true (rfl : Nat.ble _ 1024 = true))) (by omega)) (by omega), by omega⟩) | (refine Nat.le_trans (Nat.mul_le_mul_left _ (Nat.le_of_ble_eq_true (rfl : Nat.ble _ 1024 = true))) ?_; omega) | (unfold inI64; omega) | (constructor <;> omega) | (simp only [inI64, List.length_cons, List.length_append, List.length_nil, List.length_set] at *; omega) | decide | (unfold inI64; decide)); conv => whnf)
    | omega | decide | assumption)
  all_goals
    refine .ret _ ?_
    conv => whnf
    refine ⟨[], ⟨?_, rfl⟩, trivial⟩
    conv => lhs; whnf
    congr 2
    unfold canB
    clear hd ha hb1 hr h1
    grind
-- CanBe
theorem z151 (r : Rul) (a b : Mrk) (hr : rBd r) (ha : mBd a) (hb1 : mBd b) : FSpec Tryz.prog 151 [.agg ((ruF r).map .d), .agg ((mkF a).map .d), .agg ((mkF b).map .d)] [] (fun x r' => x = .d (.bool (canB r a b)) ∧ r' = []) := by
  have hd := z152 a b ha hb1
  have h1 := sq_bd (x := r.near) (by unfold rBd at hr; omega) (by unfold rBd at hr; omega)
  unfold mBd at ha hb1
  unfold rBd at hr
  refine spec_of hT (C := []) Tryz.func151 rfl Tryz.call151 rfl rfl rfl ?_
  conv => whnf
  repeat' (first
    | (refine CallX.exact (hd) rfl rfl ?_; rotate_right; conv => whnf)
    | (refine br_intro (fun hb => ?_) (fun hb => ?_) <;> (try simp only [decide_eq_true_eq, decide_eq_false_iff_not, Bool.not_eq_true', Bool.not_eq_false', Bool.and_eq_true, Bool.or_eq_true, beq_iff_eq, not_and, Int.not_le, Int.not_lt, Int.toNat_natCast, beq_eq_false_iff_ne, ne_eq, eq_self, not_true_eq_false, not_false_eq_true] at hb) <;> (conv => whnf))
    | (refine RegX.rule (id := 1) hT rfl [] [(0, []), (1, []), (2, [0, 1]), (3, [0, 1]), (4, []), (5, []), (6, []), (7, []), (8, [6, 7]), (9, [6, 7]), (10, []), (11, []), (12, []), (13, []), (14, [13]), (16, [13, 14]), (17, [13, 14]), (18, [13, 14, 16, 17]), (19, [13, 14, 16, 17]), (20, [13, 14]), (15, [16, 17, 18, 19, 20]), (21, []), (22, []), (23, []), (24, []), (25, []), (26, [24, 25]), (27, [24, 25]), (28, [24, 25, 26, 27]), (29, [24, 25, 26, 27]), (30, [24, 25]), (31, []), (32, []), (33, [])] (by decide +kernel) ?_; conv => whnf)
    | omega
    | (refine And.intro ?_ ?_; ((try dsimp only); first | omega | (refine ⟨by omega, by omega, Int.le_trans (Int.mul_le_mul_of_nonneg_right (Int.ofNat_le.2 (Nat.le_of_ble_eq_true (rfl : Nat.ble _ 1024 = true))) (by omega)) (by omega), by omega⟩) | (refine Nat.le_trans (Nat.mul_le_mul_left _ (Nat.le_of_ble_eq_true (rfl : Nat.ble _ 1024 = true))) ?_; omega) | (unfold inI64; omega) | (constructor <;> omega) | (simp only [inI64, List.length_cons, List.length_append, List.length_nil, List.length_set] at *; omega) | decide | (unfold inI64; decide)); conv => whnf)
    | omega | decide | assumption)
  all_goals
    refine .ret _ ?_
    conv => whnf
    refine ⟨[], ⟨?_, rfl⟩, trivial⟩
    conv => lhs; whnf
    congr 2
    unfold canB
    clear hd ha hb1 hr h1
    grind
theorem cmpPr_eq (p q : Prg) : cmpPr p q = firstE [cmpI p.a q.a, cmpI p.b q.b] := by
  unfold cmpPr
  simp only [firstE]
  grind
-- mark.byPair
theorem z283 (p q : Prg) : FSpec Tryz.prog 283 [.agg ((prF p).map .d), .agg ((prF q).map .d)] [] (fun x r => x = .d (.int .i64 (cmpPr p q)) ∧ r = []) := by
  refine spec_of hT (C := []) Tryz.func283 rfl Tryz.call283 rfl rfl rfl ?_
  conv => whnf
  repeat' (first
    | (refine CallX.exact (s183 _ _) rfl rfl ?_; rotate_right; conv => whnf)
    | (refine CallX.pure (s182 [_, _] (by simp)) ⟨SV.le_lit (by rfl) (by rfl), trivial⟩ rfl ?_; conv => whnf)
    | (refine br_intro (fun hb => ?_) (fun hb => ?_) <;> (try simp only [decide_eq_true_eq, decide_eq_false_iff_not, Bool.not_eq_true', Bool.not_eq_false', Bool.and_eq_true, Bool.or_eq_true, beq_iff_eq, not_and, Int.not_le, Int.not_lt, Int.toNat_natCast, beq_eq_false_iff_ne, ne_eq, eq_self, not_true_eq_false, not_false_eq_true] at hb) <;> (conv => whnf))
    | (refine RegX.rule (id := 1) hT rfl [] [(0, []), (1, []), (2, [0, 1]), (3, [0, 1]), (5, [0, 1, 2, 3]), (6, [0, 1, 2, 3]), (7, [0, 1, 2, 3, 5, 6]), (8, [0, 1, 2, 3, 5, 6]), (4, [5, 6, 7, 8]), (9, []), (10, []), (11, []), (12, [])] (by decide +kernel) ?_; conv => whnf)
    | omega
    | (refine And.intro ?_ ?_; ((try dsimp only); first | omega | (refine ⟨by omega, by omega, Int.le_trans (Int.mul_le_mul_of_nonneg_right (Int.ofNat_le.2 (Nat.le_of_ble_eq_true (rfl : Nat.ble _ 1024 = true))) (by omega)) (by omega), by omega⟩) | (refine Nat.le_trans (Nat.mul_le_mul_left _ (Nat.le_of_ble_eq_true (rfl : Nat.ble _ 1024 = true))) ?_; omega) | (unfold inI64; omega) | (constructor <;> omega) | (simp only [inI64, List.length_cons, List.length_append, List.length_nil, List.length_set] at *; omega) | decide | (unfold inI64; decide)); conv => whnf)
    | omega | decide | assumption)
  refine .ret _ ?_
  conv => whnf
  refine ⟨[], ⟨?_, rfl⟩, trivial⟩
  conv => lhs; whnf
  rw [cmpPr_eq]
theorem cmpIL_two (p q : Prg) : cmpIL [p.a, p.b] [q.a, q.b] = cmpPr p q := by
  unfold cmpPr
  simp only [cmpIL]
  grind
-- beats' own
theorem z282 (p q : Prg) : FSpec Tryz.prog 282 [.agg ((prF p).map .d), .agg ((prF q).map .d)] [] (fun x r => x = .d (.int .i64 (cmpPr p q)) ∧ r = []) := by
  refine spec_of hT (C := []) Tryz.func282 rfl Tryz.call282 rfl rfl rfl ?_
  conv => whnf
  repeat' (first
    | (refine CallX.pure (s191 [_, _] [_, _] (by simp) (by simp)) ⟨SV.le_lit (by rfl) (by rfl), SV.le_lit (by rfl) (by rfl), trivial⟩ rfl ?_; conv => whnf)
    | (refine br_intro (fun hb => ?_) (fun hb => ?_) <;> (try simp only [decide_eq_true_eq, decide_eq_false_iff_not, Bool.not_eq_true', Bool.not_eq_false', Bool.and_eq_true, Bool.or_eq_true, beq_iff_eq, not_and, Int.not_le, Int.not_lt, Int.toNat_natCast, beq_eq_false_iff_ne, ne_eq, eq_self, not_true_eq_false, not_false_eq_true] at hb) <;> (conv => whnf))
    | omega
    | (refine And.intro ?_ ?_; ((try dsimp only); first | omega | (refine ⟨by omega, by omega, Int.le_trans (Int.mul_le_mul_of_nonneg_right (Int.ofNat_le.2 (Nat.le_of_ble_eq_true (rfl : Nat.ble _ 1024 = true))) (by omega)) (by omega), by omega⟩) | (refine Nat.le_trans (Nat.mul_le_mul_left _ (Nat.le_of_ble_eq_true (rfl : Nat.ble _ 1024 = true))) ?_; omega) | (unfold inI64; omega) | (constructor <;> omega) | (simp only [inI64, List.length_cons, List.length_append, List.length_nil, List.length_set] at *; omega) | decide | (unfold inI64; decide)); conv => whnf)
    | omega | decide | assumption)
  refine .ret _ ?_
  conv => whnf
  refine ⟨[], ⟨?_, rfl⟩, trivial⟩
  conv => lhs; whnf
  rw [← cmpIL_two]
-- slices.CompareFunc of pairings
theorem z281 (g : FuncId) (l m : List Prg) (hl : l.length ≤ 2^40) (hm : m.length ≤ 2^40)
    (hg : ∀ p q, FSpec Tryz.prog g [.agg ((prF p).map .d), .agg ((prF q).map .d)] [] (fun x r => x = .d (.int .i64 (cmpPr p q)) ∧ r = [])) :
    FSpec Tryz.prog 281 [.d (prgs l), .d (prgs m), .fn g []] [] (fun x r => x = .d (.int .i64 (cmpPL l m)) ∧ r = []) := by
  refine spec_of hT (C := []) Tryz.func281 rfl Tryz.call281 rfl rfl rfl ?_
  conv => whnf
  refine LoopX.rule hT (C := []) (ι := Nat) (fun i => i ≤ l.length ∧ i ≤ m.length ∧ cmpPL l m = cmpPL (l.drop i) (m.drop i)) (fun i => mkSt [(0, .d (prgs l)), (1, .d (prgs m)), (2, .fn g []), (11, .d (prgs l)), (12, .d (.int .i64 l.length)), (13, .d (.int .i64 i))] []) (fun i => l.length - i) 0 ⟨by omega, by omega, by simp⟩ (by refine Entails.mk' [] rfl rfl ?_ ?_ <;> repeat' (first | exact True.intro | exact SV.le_refl _ | exact Res.le_refl _ | exact SV.le_int (by omega) | exact SV.le_any _ | refine And.intro ?_ ?_)) ?_
  rintro i ⟨p1, p2, p3⟩
  have hd : i < l.length → l.drop i = l.getD i pr0 :: l.drop (i + 1) := fun hi => by rw [List.drop_eq_getElem_cons hi, List.getD_eq_getElem?_getD, List.getElem?_eq_getElem hi]; rfl
  have hd2 : i < m.length → m.drop i = m.getD i pr0 :: m.drop (i + 1) := fun hi => by rw [List.drop_eq_getElem_cons hi, List.getD_eq_getElem?_getD, List.getElem?_eq_getElem hi]; rfl
  have e1 : (i : Int).toNat = i := Int.toNat_natCast i
  conv => whnf
  repeat' (first
    | (refine CallX.exact (hg (l.getD (i : Int).toNat pr0) (m.getD (i : Int).toNat pr0)) rfl rfl ?_; rotate_right; conv => whnf)
    | (refine br_intro (fun hb => ?_) (fun hb => ?_) <;> (try simp only [decide_eq_true_eq, decide_eq_false_iff_not, Bool.not_eq_true', Bool.not_eq_false', Bool.and_eq_true, Bool.or_eq_true, beq_iff_eq, not_and, Int.not_le, Int.not_lt, Int.toNat_natCast, beq_eq_false_iff_ne, ne_eq, eq_self, not_true_eq_false, not_false_eq_true] at hb) <;> (conv => whnf))
    | omega
    | (refine And.intro ?_ ?_; ((try dsimp only); first | omega | (refine ⟨by omega, by omega, Int.le_trans (Int.mul_le_mul_of_nonneg_right (Int.ofNat_le.2 (Nat.le_of_ble_eq_true (rfl : Nat.ble _ 1024 = true))) (by omega)) (by omega), by omega⟩) | (refine Nat.le_trans (Nat.mul_le_mul_left _ (Nat.le_of_ble_eq_true (rfl : Nat.ble _ 1024 = true))) ?_; omega) | (unfold inI64; omega) | (constructor <;> omega) | (simp only [inI64, List.length_cons, List.length_append, List.length_nil, List.length_set] at *; omega) | decide | (unfold inI64; decide)); conv => whnf)
    | omega | decide | assumption)
  · refine .ret _ ?_
    conv => whnf
    refine ⟨[], ⟨?_, rfl⟩, trivial⟩
    conv => lhs; whnf
    congr 2
    rw [p3, hd (by omega), List.drop_eq_nil_iff.2 (by omega : m.length ≤ i)]; rfl
  · refine .ret _ ?_
    conv => whnf
    refine ⟨[], ⟨?_, rfl⟩, trivial⟩
    conv => lhs; whnf
    congr 2
    rw [p3, hd (by omega), hd2 (by omega), cmpPL, if_pos (by simpa using hb)]; simp only [e1]
  · refine ⟨i + 1, ⟨by omega, by omega, ?_⟩, by omega, (by refine Entails.mk' [] rfl rfl ?_ ?_ <;> repeat' (first | exact True.intro | exact SV.le_refl _ | exact Res.le_refl _ | exact SV.le_int (by omega) | exact SV.le_any _ | refine And.intro ?_ ?_))⟩
    rw [p3, hd (by omega), hd2 (by omega), cmpPL, if_neg (by simpa using hb)]
  · refine .ret _ ?_
    conv => whnf
    refine ⟨[], ⟨?_, rfl⟩, trivial⟩
    conv => lhs; whnf
    congr 2
    have hm : i < m.length := by omega
    rw [p3, hd2 hm, List.drop_eq_nil_iff.2 (by omega : l.length ≤ i)]; rfl
  · refine .ret _ ?_
    conv => whnf
    refine ⟨[], ⟨?_, rfl⟩, trivial⟩
    conv => lhs; whnf
    congr 2
    rw [p3, List.drop_eq_nil_iff.2 (by omega : m.length ≤ i), List.drop_eq_nil_iff.2 (by omega : l.length ≤ i)]; rfl
-- beats
theorem z230 (m o : MSt) (hm : m.1.length ≤ 2^40) (ho : o.1.length ≤ 2^40) : FSpec Tryz.prog 230 [.agg [.d (prgs m.1), .d (.int .i64 m.2)], .agg [.d (prgs o.1), .d (.int .i64 o.2)]] [] (fun x r => x = .d (.bool (beatsM m o)) ∧ r = []) := by
  have h := z281 282 m.1 o.1 hm ho (fun p q => z282 p q)
  refine spec_of hT (C := []) Tryz.func230 rfl Tryz.call230 rfl rfl rfl ?_
  conv => whnf
  repeat' (first
    | (refine CallX.exact (h) rfl rfl ?_; rotate_right; conv => whnf)
    | (refine br_intro (fun hb => ?_) (fun hb => ?_) <;> (try simp only [decide_eq_true_eq, decide_eq_false_iff_not, Bool.not_eq_true', Bool.not_eq_false', Bool.and_eq_true, Bool.or_eq_true, beq_iff_eq, not_and, Int.not_le, Int.not_lt, Int.toNat_natCast, beq_eq_false_iff_ne, ne_eq, eq_self, not_true_eq_false, not_false_eq_true] at hb) <;> (conv => whnf))
    | omega
    | (refine And.intro ?_ ?_; ((try dsimp only); first | omega | (refine ⟨by omega, by omega, Int.le_trans (Int.mul_le_mul_of_nonneg_right (Int.ofNat_le.2 (Nat.le_of_ble_eq_true (rfl : Nat.ble _ 1024 = true))) (by omega)) (by omega), by omega⟩) | (refine Nat.le_trans (Nat.mul_le_mul_left _ (Nat.le_of_ble_eq_true (rfl : Nat.ble _ 1024 = true))) ?_; omega) | (unfold inI64; omega) | (constructor <;> omega) | (simp only [inI64, List.length_cons, List.length_append, List.length_nil, List.length_set] at *; omega) | decide | (unfold inI64; decide)); conv => whnf)
    | omega | decide | assumption)
  all_goals
    refine .ret _ ?_
    conv => whnf
    refine ⟨[], ⟨?_, rfl⟩, trivial⟩
    conv => lhs; whnf
    congr 2
    unfold beatsM
    grind
abbrev prB (l : List Prg) : Res := seqB 85 2 prF pr0 l
-- slices.Clone of pairings, of an own row: what it gives back is changed no more
theorem z231 (l : List Prg) (hl : l.length ≤ 2^20) : FSpec Tryz.prog 231 [.buf 1000001] [(1000001, prB l)] (fun y r => y = .d (prgs l) ∧ r = [(1000001, prB l)]) := by
  refine spec_of hT (C := [5]) Tryz.func231 rfl Tryz.call231 rfl rfl rfl ?_
  conv => whnf
  rintro b hbn
  conv => whnf
  repeat' (first
    | (refine br_intro (fun hb => ?_) (fun hb => ?_) <;> (try simp only [decide_eq_true_eq, decide_eq_false_iff_not, Bool.not_eq_true', Bool.not_eq_false', Bool.and_eq_true, Bool.or_eq_true, beq_iff_eq, not_and, Int.not_le, Int.not_lt, Int.toNat_natCast, beq_eq_false_iff_ne, ne_eq, eq_self, not_true_eq_false, not_false_eq_true] at hb) <;> (conv => whnf))
    | omega
    | (refine And.intro ?_ ?_; ((try dsimp only); first | omega | (refine ⟨by omega, by omega, Int.le_trans (Int.mul_le_mul_of_nonneg_right (Int.ofNat_le.2 (Nat.le_of_ble_eq_true (rfl : Nat.ble _ 1024 = true))) (by omega)) (by omega), by omega⟩) | (refine Nat.le_trans (Nat.mul_le_mul_left _ (Nat.le_of_ble_eq_true (rfl : Nat.ble _ 1024 = true))) ?_; omega) | (unfold inI64; omega) | (constructor <;> omega) | (simp only [inI64, List.length_cons, List.length_append, List.length_nil, List.length_set] at *; omega) | decide | (unfold inI64; decide)); conv => whnf)
    | omega | decide | assumption)
  · have : l = [] := List.eq_nil_of_length_eq_zero (hbn (by assumption))
    subst this
    refine .weak _ ?_
    (conv => whnf)
    exact ⟨_, _, SV.le_nilS, ⟨rfl, rfl⟩, Res.le_refl _, trivial⟩
  · refine .freeze _ 7 85 2 _ _ rfl (.weak _ ?_)
    (conv => whnf)
    exact ⟨_, _, SV.le_ro (by simp) (fun i hi => by rw [appGet_ge (by omega)]; rfl), ⟨rfl, rfl⟩, Res.le_refl _, trivial⟩
-- the same, of a frozen row
theorem z231f (l : List Prg) (hl : l.length ≤ 2^20) : FSpec Tryz.prog 231 [.d (prgs l)] [] (fun y r => y = .d (prgs l) ∧ r = []) := by
  refine spec_of hT (C := [5]) Tryz.func231 rfl Tryz.call231 rfl rfl rfl ?_
  conv => whnf
  rintro b hbn
  conv => whnf
  repeat' (first
    | (refine br_intro (fun hb => ?_) (fun hb => ?_) <;> (try simp only [decide_eq_true_eq, decide_eq_false_iff_not, Bool.not_eq_true', Bool.not_eq_false', Bool.and_eq_true, Bool.or_eq_true, beq_iff_eq, not_and, Int.not_le, Int.not_lt, Int.toNat_natCast, beq_eq_false_iff_ne, ne_eq, eq_self, not_true_eq_false, not_false_eq_true] at hb) <;> (conv => whnf))
    | omega
    | (refine And.intro ?_ ?_; ((try dsimp only); first | omega | (refine ⟨by omega, by omega, Int.le_trans (Int.mul_le_mul_of_nonneg_right (Int.ofNat_le.2 (Nat.le_of_ble_eq_true (rfl : Nat.ble _ 1024 = true))) (by omega)) (by omega), by omega⟩) | (refine Nat.le_trans (Nat.mul_le_mul_left _ (Nat.le_of_ble_eq_true (rfl : Nat.ble _ 1024 = true))) ?_; omega) | (unfold inI64; omega) | (constructor <;> omega) | (simp only [inI64, List.length_cons, List.length_append, List.length_nil, List.length_set] at *; omega) | decide | (unfold inI64; decide)); conv => whnf)
    | omega | decide | assumption)
  · have : l = [] := List.eq_nil_of_length_eq_zero (hbn (by assumption))
    subst this
    refine .weak _ ?_
    (conv => whnf)
    exact ⟨_, _, SV.le_nilS, ⟨rfl, rfl⟩, trivial⟩
  · refine .freeze _ 7 85 2 _ _ rfl (.weak _ ?_)
    (conv => whnf)
    exact ⟨_, _, SV.le_ro (by simp) (fun i hi => by rw [appGet_ge (by omega)]; rfl), ⟨rfl, rfl⟩, trivial⟩
-- the same, of a row that is changed no more: what it gives back is the caller's own
theorem z231r (l : List Prg) (hl : l.length ≤ 2^20) : FSpec Tryz.prog 231 [.d (prgs l)] [] (fun y r => (y = .d .nilsl ∧ l = [] ∧ r = []) ∨ (y = .buf 7 ∧ r = [(7, prB l)])) := by
  refine spec_of hT (C := [5]) Tryz.func231 rfl Tryz.call231 rfl rfl rfl ?_
  conv => whnf
  rintro b hbn
  conv => whnf
  repeat' (first
    | (refine br_intro (fun hb => ?_) (fun hb => ?_) <;> (try simp only [decide_eq_true_eq, decide_eq_false_iff_not, Bool.not_eq_true', Bool.not_eq_false', Bool.and_eq_true, Bool.or_eq_true, beq_iff_eq, not_and, Int.not_le, Int.not_lt, Int.toNat_natCast, beq_eq_false_iff_ne, ne_eq, eq_self, not_true_eq_false, not_false_eq_true] at hb) <;> (conv => whnf))
    | omega
    | (refine And.intro ?_ ?_; ((try dsimp only); first | omega | (refine ⟨by omega, by omega, Int.le_trans (Int.mul_le_mul_of_nonneg_right (Int.ofNat_le.2 (Nat.le_of_ble_eq_true (rfl : Nat.ble _ 1024 = true))) (by omega)) (by omega), by omega⟩) | (refine Nat.le_trans (Nat.mul_le_mul_left _ (Nat.le_of_ble_eq_true (rfl : Nat.ble _ 1024 = true))) ?_; omega) | (unfold inI64; omega) | (constructor <;> omega) | (simp only [inI64, List.length_cons, List.length_append, List.length_nil, List.length_set] at *; omega) | decide | (unfold inI64; decide)); conv => whnf)
    | omega | decide | assumption)
  · have : l = [] := List.eq_nil_of_length_eq_zero (hbn (by assumption))
    refine .ret _ ?_
    conv => whnf
    exact ⟨_, .inl ⟨rfl, this, rfl⟩, trivial⟩
  · refine .ret _ ?_
    conv => whnf
    refine ⟨_, .inr ⟨rfl, rfl⟩, Res.le_buf (by simp) (fun i hi => ?_), trivial⟩
    rw [appGet_ge (by omega)]; rfl
-- slices.Equal of pairings
theorem z61 (l m : List Prg) (hl : l.length ≤ 2^40) : FSpec Tryz.prog 61 [.d (prgs l), .d (prgs m)] [] (fun x r => x = .d (.bool (decide (l = m))) ∧ r = []) := by
  refine spec_of hT (C := []) Tryz.func61 rfl Tryz.call61 rfl rfl rfl ?_
  conv => whnf
  repeat' (first
    | (refine br_intro (fun hb => ?_) (fun hb => ?_) <;> (try simp only [decide_eq_true_eq, decide_eq_false_iff_not, Bool.not_eq_true', Bool.not_eq_false', Bool.and_eq_true, Bool.or_eq_true, beq_iff_eq, not_and, Int.not_le, Int.not_lt, Int.toNat_natCast, beq_eq_false_iff_ne, ne_eq, eq_self, not_true_eq_false, not_false_eq_true] at hb) <;> (conv => whnf))
    | (refine RegX.rule (id := 6) hT rfl [] [(0, []), (1, [0]), (2, []), (3, []), (4, [0, 1, 2, 3]), (5, [0, 1, 2, 3, 4]), (6, [0, 1, 2, 3]), (7, [0, 1, 2, 3]), (8, [])] (by decide +kernel) ?_; conv => whnf)
    | omega
    | (refine And.intro ?_ ?_; ((try dsimp only); first | omega | (refine ⟨by omega, by omega, Int.le_trans (Int.mul_le_mul_of_nonneg_right (Int.ofNat_le.2 (Nat.le_of_ble_eq_true (rfl : Nat.ble _ 1024 = true))) (by omega)) (by omega), by omega⟩) | (refine Nat.le_trans (Nat.mul_le_mul_left _ (Nat.le_of_ble_eq_true (rfl : Nat.ble _ 1024 = true))) ?_; omega) | (unfold inI64; omega) | (constructor <;> omega) | (simp only [inI64, List.length_cons, List.length_append, List.length_nil, List.length_set] at *; omega) | decide | (unfold inI64; decide)); conv => whnf)
    | omega | decide | assumption)
  · refine .ret _ ?_
    conv => whnf
    refine ⟨[], ⟨?_, rfl⟩, trivial⟩
    conv => lhs; whnf
    have : ¬ l = m := fun q => by subst q; simp at hb
    simp [this]
  have hlen : l.length = m.length := by
    omega
  refine LoopX.rule hT (C := []) (ι := Nat) (fun i => i ≤ l.length ∧ ∀ j, j < i → l.getD j pr0 = m.getD j pr0) (fun i => mkSt [(0, .d (prgs l)), (1, .d (prgs m)), (12, .d (.int .i64 l.length)), (13, .d (.int .i64 i))] []) (fun i => l.length - i) 0 ⟨by omega, by omega⟩ (by refine Entails.mk' [] rfl rfl ?_ ?_ <;> repeat' (first | exact True.intro | exact SV.le_refl _ | exact Res.le_refl _ | exact SV.le_int (by omega) | exact SV.le_any _ | refine And.intro ?_ ?_)) ?_
  rintro i ⟨p1, p2⟩
  have e1 : (i : Int).toNat = i := Int.toNat_natCast i
  conv => whnf
  repeat' (first
    | (refine br_intro (fun hb => ?_) (fun hb => ?_) <;> (try simp only [decide_eq_true_eq, decide_eq_false_iff_not, Bool.not_eq_true', Bool.not_eq_false', Bool.and_eq_true, Bool.or_eq_true, beq_iff_eq, not_and, Int.not_le, Int.not_lt, Int.toNat_natCast, beq_eq_false_iff_ne, ne_eq, eq_self, not_true_eq_false, not_false_eq_true] at hb) <;> (conv => whnf))
    | (refine RegX.rule (id := 6) hT rfl [] [(0, []), (1, [0]), (2, []), (3, []), (4, [0, 1, 2, 3]), (5, [0, 1, 2, 3, 4]), (6, [0, 1, 2, 3]), (7, [0, 1, 2, 3]), (8, [])] (by decide +kernel) ?_; conv => whnf)
    | omega
    | (refine And.intro ?_ ?_; ((try dsimp only); first | omega | (refine ⟨by omega, by omega, Int.le_trans (Int.mul_le_mul_of_nonneg_right (Int.ofNat_le.2 (Nat.le_of_ble_eq_true (rfl : Nat.ble _ 1024 = true))) (by omega)) (by omega), by omega⟩) | (refine Nat.le_trans (Nat.mul_le_mul_left _ (Nat.le_of_ble_eq_true (rfl : Nat.ble _ 1024 = true))) ?_; omega) | (unfold inI64; omega) | (constructor <;> omega) | (simp only [inI64, List.length_cons, List.length_append, List.length_nil, List.length_set] at *; omega) | decide | (unfold inI64; decide)); conv => whnf)
    | omega | decide | assumption)
  · refine .ret _ ?_
    conv => whnf
    refine ⟨[], ⟨?_, rfl⟩, trivial⟩
    conv => lhs; whnf
    have : ¬ l = m := fun q => by subst q; simp at hb
    simp [this]
  · exact ⟨i + 1, ⟨by omega, all_step p2 (by rw [prg_eq]; simpa [and_assoc] using hb)⟩, by omega, (by refine Entails.mk' [] rfl rfl ?_ ?_ <;> repeat' (first | exact True.intro | exact SV.le_refl _ | exact Res.le_refl _ | exact SV.le_int (by omega) | exact SV.le_any _ | refine And.intro ?_ ?_))⟩
  · refine .ret _ ?_
    conv => whnf
    refine ⟨[], ⟨?_, rfl⟩, trivial⟩
    conv => lhs; whnf
    have : i = l.length := by omega
    subst this
    simp [eq_of_getD pr0 hlen p2]
/-- Whether some pairing has a number of the newer report, and where. -/
def pIx (p : Prg → Bool) (l : List Prg) : Int := ixF (fun i => p (l.getD i pr0)) l.length
theorem pIx_any (p : Prg → Bool) (l : List Prg) : decide (0 ≤ pIx p l) = l.any p := by
  have hb : -1 ≤ pIx p l ∧ pIx p l < l.length ∧ (0 ≤ pIx p l → p (l.getD (pIx p l).toNat pr0) = true) := ixF_bd
  rw [Bool.eq_iff_iff, decide_eq_true_eq, List.any_eq_true]
  constructor
  · intro h
    exact ⟨_, getD_mem (by omega), hb.2.2 h⟩
  · rintro ⟨x, hx, hp⟩
    obtain ⟨i, hi, rfl⟩ := List.mem_iff_getElem.1 hx
    rcases Int.lt_or_le (pIx p l) 0 with q | q
    · exfalso
      have h0 : pIx p l = -1 := by omega
      have : ∀ n, ixF (fun i => p (l.getD i pr0)) n = -1 → ∀ j, j < n → p (l.getD j pr0) = false := by
        intro n
        induction n with
        | zero => intro _ j hj; omega
        | succ n ih =>
          intro hn j hj
          rw [ixF] at hn
          split at hn
          · rename_i h1
            split at hn
            · omega
            · rename_i h2
              by_cases e : j = n
              · subst e; simpa using h2
              · exact ih h1 j (by omega)
          · rename_i h1; exact absurd hn h1
      have h1 := this l.length h0 i hi
      rw [List.getD_eq_getElem?_getD, List.getElem?_eq_getElem hi, Option.getD_some, hp] at h1
      cases h1
    · exact q
abbrev icell (k : Int) : Res := .cells 3 [.d (.int .i64 k)]
abbrev pcell (p : Prg) : Res := .cells 85 ((prF p).map .d)
-- slices.IndexFunc of pairings
theorem z159i (k : Int) (g : FuncId) (l : List Prg) (hl : l.length ≤ 2^40) (p : Prg → Bool)
    (hg : ∀ x, x ∈ l → FSpec Tryz.prog g [.agg ((prF x).map .d), .ptr 1000001 0] [(1000001, icell k)] (fun y r => y = .d (.bool (p x)) ∧ r = [(1000001, icell k)])) :
    FSpec Tryz.prog 159 [.d (prgs l), .fn g [.ptr 1000001 0]] [(1000001, icell k)] (fun y r => y = .d (.int .i64 (pIx p l)) ∧ r = [(1000001, icell k)]) := by
  refine spec_of hT (C := []) Tryz.func159 rfl Tryz.call159 rfl rfl rfl ?_
  conv => whnf
  refine LoopX.rule hT (C := []) (ι := Nat) (fun i => i ≤ l.length ∧ ∀ j, j < i → p (l.getD j pr0) = false) (fun i => mkSt [(0, .d (prgs l)), (1, .fn g [.ptr 1000001 0]), (7, .d (.int .i64 l.length)), (8, .d (.int .i64 i))] [(1000001, icell k)]) (fun i => l.length - i) 0 ⟨by omega, by omega⟩ (by refine Entails.mk' [(1000001, 1000001)] rfl rfl ?_ ?_ <;> repeat' (first | exact True.intro | exact SV.le_refl _ | exact Res.le_refl _ | exact SV.le_int (by omega) | exact SV.le_any _ | refine And.intro ?_ ?_)) ?_
  rintro i ⟨p1, p2⟩
  have e1 : (i : Int).toNat = i := Int.toNat_natCast i
  conv => whnf
  repeat' (first
    | (refine CallX.of (hg (l.getD i pr0) (getD_mem (by omega))) [(1000001, 1000001)] rfl ⟨SV.le_refl _, SV.le_refl _, trivial⟩ ⟨Res.le_refl _, trivial⟩ rfl rfl ?_; rintro x rout ⟨rfl, rfl⟩; refine ⟨rfl, ?_⟩; conv => whnf)
    | (refine br_intro (fun hb => ?_) (fun hb => ?_) <;> (try simp only [decide_eq_true_eq, decide_eq_false_iff_not, Bool.not_eq_true', Bool.not_eq_false', Bool.and_eq_true, Bool.or_eq_true, beq_iff_eq, not_and, Int.not_le, Int.not_lt, Int.toNat_natCast, beq_eq_false_iff_ne, ne_eq, eq_self, not_true_eq_false, not_false_eq_true] at hb) <;> (conv => whnf))
    | omega
    | (refine And.intro ?_ ?_; ((try dsimp only); first | omega | (refine ⟨by omega, by omega, Int.le_trans (Int.mul_le_mul_of_nonneg_right (Int.ofNat_le.2 (Nat.le_of_ble_eq_true (rfl : Nat.ble _ 1024 = true))) (by omega)) (by omega), by omega⟩) | (refine Nat.le_trans (Nat.mul_le_mul_left _ (Nat.le_of_ble_eq_true (rfl : Nat.ble _ 1024 = true))) ?_; omega) | (unfold inI64; omega) | (constructor <;> omega) | (simp only [inI64, List.length_cons, List.length_append, List.length_nil, List.length_set] at *; omega) | decide | (unfold inI64; decide)); conv => whnf)
    | omega | decide | assumption)
  · refine .ret _ ?_
    conv => whnf
    refine ⟨[(1000001, icell k)], ⟨?_, rfl⟩, Res.le_refl _, trivial⟩
    conv => lhs; whnf
    congr 2
    exact (ixF_hit (by omega) p2 (by simpa using hb)).symm
  · exact ⟨i + 1, ⟨by omega, all_step p2 (by simpa using hb)⟩, by omega, (by refine Entails.mk' [(1000001, 1000001)] rfl rfl ?_ ?_ <;> repeat' (first | exact True.intro | exact SV.le_refl _ | exact Res.le_refl _ | exact SV.le_int (by omega) | exact SV.le_any _ | refine And.intro ?_ ?_))⟩
  · refine .ret _ ?_
    conv => whnf
    refine ⟨[(1000001, icell k)], ⟨?_, rfl⟩, Res.le_refl _, trivial⟩
    conv => lhs; whnf
    congr 2
    have : i = l.length := by omega
    subst this
    exact (ixF_none p2).symm
-- slices.ContainsFunc of pairings
theorem z146i (k : Int) (g : FuncId) (l : List Prg) (hl : l.length ≤ 2^40) (p : Prg → Bool)
    (hg : ∀ x, x ∈ l → FSpec Tryz.prog g [.agg ((prF x).map .d), .ptr 1000001 0] [(1000001, icell k)] (fun y r => y = .d (.bool (p x)) ∧ r = [(1000001, icell k)])) :
    FSpec Tryz.prog 146 [.d (prgs l), .fn g [.ptr 1000001 0]] [(1000001, icell k)] (fun y r => y = .d (.bool (l.any p)) ∧ r = [(1000001, icell k)]) := by
  refine spec_of hT (C := []) Tryz.func146 rfl Tryz.call146 rfl rfl rfl ?_
  conv => whnf
  repeat' (first
    | (refine CallX.of (z159i k g l hl p hg) [(1000001, 1000001)] rfl ⟨SV.le_refl _, SV.le_refl _, trivial⟩ ⟨Res.le_refl _, trivial⟩ rfl rfl ?_; rintro x rout ⟨rfl, rfl⟩; refine ⟨rfl, ?_⟩; conv => whnf)
    | (refine br_intro (fun hb => ?_) (fun hb => ?_) <;> (try simp only [decide_eq_true_eq, decide_eq_false_iff_not, Bool.not_eq_true', Bool.not_eq_false', Bool.and_eq_true, Bool.or_eq_true, beq_iff_eq, not_and, Int.not_le, Int.not_lt, Int.toNat_natCast, beq_eq_false_iff_ne, ne_eq, eq_self, not_true_eq_false, not_false_eq_true] at hb) <;> (conv => whnf))
    | omega
    | (refine And.intro ?_ ?_; ((try dsimp only); first | omega | (refine ⟨by omega, by omega, Int.le_trans (Int.mul_le_mul_of_nonneg_right (Int.ofNat_le.2 (Nat.le_of_ble_eq_true (rfl : Nat.ble _ 1024 = true))) (by omega)) (by omega), by omega⟩) | (refine Nat.le_trans (Nat.mul_le_mul_left _ (Nat.le_of_ble_eq_true (rfl : Nat.ble _ 1024 = true))) ?_; omega) | (unfold inI64; omega) | (constructor <;> omega) | (simp only [inI64, List.length_cons, List.length_append, List.length_nil, List.length_set] at *; omega) | decide | (unfold inI64; decide)); conv => whnf)
    | omega | decide | assumption)
  refine .ret _ ?_
  conv => whnf
  refine ⟨[(1000001, icell k)], ⟨?_, rfl⟩, Res.le_refl _, trivial⟩
  conv => lhs; whnf
  rw [← pIx_any]
-- slices.IndexFunc of pairings
theorem z159p (q : Prg) (g : FuncId) (l : List Prg) (hl : l.length ≤ 2^40) (p : Prg → Bool)
    (hg : ∀ x, x ∈ l → FSpec Tryz.prog g [.agg ((prF x).map .d), .ptr 1000001 0] [(1000001, pcell q)] (fun y r => y = .d (.bool (p x)) ∧ r = [(1000001, pcell q)])) :
    FSpec Tryz.prog 159 [.d (prgs l), .fn g [.ptr 1000001 0]] [(1000001, pcell q)] (fun y r => y = .d (.int .i64 (pIx p l)) ∧ r = [(1000001, pcell q)]) := by
  refine spec_of hT (C := []) Tryz.func159 rfl Tryz.call159 rfl rfl rfl ?_
  conv => whnf
  refine LoopX.rule hT (C := []) (ι := Nat) (fun i => i ≤ l.length ∧ ∀ j, j < i → p (l.getD j pr0) = false) (fun i => mkSt [(0, .d (prgs l)), (1, .fn g [.ptr 1000001 0]), (7, .d (.int .i64 l.length)), (8, .d (.int .i64 i))] [(1000001, pcell q)]) (fun i => l.length - i) 0 ⟨by omega, by omega⟩ (by refine Entails.mk' [(1000001, 1000001)] rfl rfl ?_ ?_ <;> repeat' (first | exact True.intro | exact SV.le_refl _ | exact Res.le_refl _ | exact SV.le_int (by omega) | exact SV.le_any _ | refine And.intro ?_ ?_)) ?_
  rintro i ⟨p1, p2⟩
  have e1 : (i : Int).toNat = i := Int.toNat_natCast i
  conv => whnf
  repeat' (first
    | (refine CallX.of (hg (l.getD i pr0) (getD_mem (by omega))) [(1000001, 1000001)] rfl ⟨SV.le_refl _, SV.le_refl _, trivial⟩ ⟨Res.le_refl _, trivial⟩ rfl rfl ?_; rintro x rout ⟨rfl, rfl⟩; refine ⟨rfl, ?_⟩; conv => whnf)
    | (refine br_intro (fun hb => ?_) (fun hb => ?_) <;> (try simp only [decide_eq_true_eq, decide_eq_false_iff_not, Bool.not_eq_true', Bool.not_eq_false', Bool.and_eq_true, Bool.or_eq_true, beq_iff_eq, not_and, Int.not_le, Int.not_lt, Int.toNat_natCast, beq_eq_false_iff_ne, ne_eq, eq_self, not_true_eq_false, not_false_eq_true] at hb) <;> (conv => whnf))
    | omega
    | (refine And.intro ?_ ?_; ((try dsimp only); first | omega | (refine ⟨by omega, by omega, Int.le_trans (Int.mul_le_mul_of_nonneg_right (Int.ofNat_le.2 (Nat.le_of_ble_eq_true (rfl : Nat.ble _ 1024 = true))) (by omega)) (by omega), by omega⟩) | (refine Nat.le_trans (Nat.mul_le_mul_left _ (Nat.le_of_ble_eq_true (rfl : Nat.ble _ 1024 = true))) ?_; omega) | (unfold inI64; omega) | (constructor <;> omega) | (simp only [inI64, List.length_cons, List.length_append, List.length_nil, List.length_set] at *; omega) | decide | (unfold inI64; decide)); conv => whnf)
    | omega | decide | assumption)
  · refine .ret _ ?_
    conv => whnf
    refine ⟨[(1000001, pcell q)], ⟨?_, rfl⟩, Res.le_refl _, trivial⟩
    conv => lhs; whnf
    congr 2
    exact (ixF_hit (by omega) p2 (by simpa using hb)).symm
  · exact ⟨i + 1, ⟨by omega, all_step p2 (by simpa using hb)⟩, by omega, (by refine Entails.mk' [(1000001, 1000001)] rfl rfl ?_ ?_ <;> repeat' (first | exact True.intro | exact SV.le_refl _ | exact Res.le_refl _ | exact SV.le_int (by omega) | exact SV.le_any _ | refine And.intro ?_ ?_))⟩
  · refine .ret _ ?_
    conv => whnf
    refine ⟨[(1000001, pcell q)], ⟨?_, rfl⟩, Res.le_refl _, trivial⟩
    conv => lhs; whnf
    congr 2
    have : i = l.length := by omega
    subst this
    exact (ixF_none p2).symm
-- slices.ContainsFunc of pairings
theorem z146p (q : Prg) (g : FuncId) (l : List Prg) (hl : l.length ≤ 2^40) (p : Prg → Bool)
    (hg : ∀ x, x ∈ l → FSpec Tryz.prog g [.agg ((prF x).map .d), .ptr 1000001 0] [(1000001, pcell q)] (fun y r => y = .d (.bool (p x)) ∧ r = [(1000001, pcell q)])) :
    FSpec Tryz.prog 146 [.d (prgs l), .fn g [.ptr 1000001 0]] [(1000001, pcell q)] (fun y r => y = .d (.bool (l.any p)) ∧ r = [(1000001, pcell q)]) := by
  refine spec_of hT (C := []) Tryz.func146 rfl Tryz.call146 rfl rfl rfl ?_
  conv => whnf
  repeat' (first
    | (refine CallX.of (z159p q g l hl p hg) [(1000001, 1000001)] rfl ⟨SV.le_refl _, SV.le_refl _, trivial⟩ ⟨Res.le_refl _, trivial⟩ rfl rfl ?_; rintro x rout ⟨rfl, rfl⟩; refine ⟨rfl, ?_⟩; conv => whnf)
    | (refine br_intro (fun hb => ?_) (fun hb => ?_) <;> (try simp only [decide_eq_true_eq, decide_eq_false_iff_not, Bool.not_eq_true', Bool.not_eq_false', Bool.and_eq_true, Bool.or_eq_true, beq_iff_eq, not_and, Int.not_le, Int.not_lt, Int.toNat_natCast, beq_eq_false_iff_ne, ne_eq, eq_self, not_true_eq_false, not_false_eq_true] at hb) <;> (conv => whnf))
    | omega
    | (refine And.intro ?_ ?_; ((try dsimp only); first | omega | (refine ⟨by omega, by omega, Int.le_trans (Int.mul_le_mul_of_nonneg_right (Int.ofNat_le.2 (Nat.le_of_ble_eq_true (rfl : Nat.ble _ 1024 = true))) (by omega)) (by omega), by omega⟩) | (refine Nat.le_trans (Nat.mul_le_mul_left _ (Nat.le_of_ble_eq_true (rfl : Nat.ble _ 1024 = true))) ?_; omega) | (unfold inI64; omega) | (constructor <;> omega) | (simp only [inI64, List.length_cons, List.length_append, List.length_nil, List.length_set] at *; omega) | decide | (unfold inI64; decide)); conv => whnf)
    | omega | decide | assumption)
  refine .ret _ ?_
  conv => whnf
  refine ⟨[(1000001, pcell q)], ⟨?_, rfl⟩, Res.le_refl _, trivial⟩
  conv => lhs; whnf
  rw [← pIx_any]
theorem z160 (p : Prg) (k : Int) : FSpec Tryz.prog 160 [.agg ((prF p).map .d), .ptr 1000001 0] [(1000001, icell k)] (fun y r => y = .d (.bool (p.b == k)) ∧ r = [(1000001, icell k)]) := by
  refine spec_of hT (C := []) Tryz.func160 rfl Tryz.call160 rfl rfl rfl ?_
  conv => whnf
  refine .ret _ ?_
  conv => whnf
  exact ⟨[(1000001, icell k)], ⟨rfl, rfl⟩, Res.le_refl _, trivial⟩
theorem z167 (p : Prg) (k : Int) : FSpec Tryz.prog 167 [.agg ((prF p).map .d), .ptr 1000001 0] [(1000001, icell k)] (fun y r => y = .d (.bool (p.b == k)) ∧ r = [(1000001, icell k)]) := by
  refine spec_of hT (C := []) Tryz.func167 rfl Tryz.call167 rfl rfl rfl ?_
  conv => whnf
  refine .ret _ ?_
  conv => whnf
  exact ⟨[(1000001, icell k)], ⟨rfl, rfl⟩, Res.le_refl _, trivial⟩
theorem z176 (p : Prg) (k : Int) : FSpec Tryz.prog 176 [.agg ((prF p).map .d), .ptr 1000001 0] [(1000001, icell k)] (fun y r => y = .d (.bool (p.b == k)) ∧ r = [(1000001, icell k)]) := by
  refine spec_of hT (C := []) Tryz.func176 rfl Tryz.call176 rfl rfl rfl ?_
  conv => whnf
  refine .ret _ ?_
  conv => whnf
  exact ⟨[(1000001, icell k)], ⟨rfl, rfl⟩, Res.le_refl _, trivial⟩
theorem z180 (p : Prg) (k : Int) : FSpec Tryz.prog 180 [.agg ((prF p).map .d), .ptr 1000001 0] [(1000001, icell k)] (fun y r => y = .d (.bool (p.a == k)) ∧ r = [(1000001, icell k)]) := by
  refine spec_of hT (C := []) Tryz.func180 rfl Tryz.call180 rfl rfl rfl ?_
  conv => whnf
  refine .ret _ ?_
  conv => whnf
  exact ⟨[(1000001, icell k)], ⟨rfl, rfl⟩, Res.le_refl _, trivial⟩
theorem z181 (p : Prg) (k : Int) : FSpec Tryz.prog 181 [.agg ((prF p).map .d), .ptr 1000001 0] [(1000001, icell k)] (fun y r => y = .d (.bool (p.b == k)) ∧ r = [(1000001, icell k)]) := by
  refine spec_of hT (C := []) Tryz.func181 rfl Tryz.call181 rfl rfl rfl ?_
  conv => whnf
  refine .ret _ ?_
  conv => whnf
  exact ⟨[(1000001, icell k)], ⟨rfl, rfl⟩, Res.le_refl _, trivial⟩
theorem z182 (p : Prg) (k : Int) : FSpec Tryz.prog 182 [.agg ((prF p).map .d), .ptr 1000001 0] [(1000001, icell k)] (fun y r => y = .d (.bool (p.a == k)) ∧ r = [(1000001, icell k)]) := by
  refine spec_of hT (C := []) Tryz.func182 rfl Tryz.call182 rfl rfl rfl ?_
  conv => whnf
  refine .ret _ ?_
  conv => whnf
  exact ⟨[(1000001, icell k)], ⟨rfl, rfl⟩, Res.le_refl _, trivial⟩
theorem z232 (p : Prg) (k : Int) : FSpec Tryz.prog 232 [.agg ((prF p).map .d), .ptr 1000001 0] [(1000001, icell k)] (fun y r => y = .d (.bool (p.b == k)) ∧ r = [(1000001, icell k)]) := by
  refine spec_of hT (C := []) Tryz.func232 rfl Tryz.call232 rfl rfl rfl ?_
  conv => whnf
  refine .ret _ ?_
  conv => whnf
  exact ⟨[(1000001, icell k)], ⟨rfl, rfl⟩, Res.le_refl _, trivial⟩
theorem z147 (p q : Prg) : FSpec Tryz.prog 147 [.agg ((prF p).map .d), .ptr 1000001 0] [(1000001, pcell q)] (fun y r => y = .d (.bool (p.b == q.b)) ∧ r = [(1000001, pcell q)]) := by
  refine spec_of hT (C := []) Tryz.func147 rfl Tryz.call147 rfl rfl rfl ?_
  conv => whnf
  refine .ret _ ?_
  conv => whnf
  exact ⟨[(1000001, pcell q)], ⟨rfl, rfl⟩, Res.le_refl _, trivial⟩
theorem z150 (p q : Prg) : FSpec Tryz.prog 150 [.agg ((prF p).map .d), .ptr 1000001 0] [(1000001, pcell q)] (fun y r => y = .d (.bool (p.b == q.b)) ∧ r = [(1000001, pcell q)]) := by
  refine spec_of hT (C := []) Tryz.func150 rfl Tryz.call150 rfl rfl rfl ?_
  conv => whnf
  refine .ret _ ?_
  conv => whnf
  exact ⟨[(1000001, pcell q)], ⟨rfl, rfl⟩, Res.le_refl _, trivial⟩
end Go.Proofs.YtnkdlkgannnfhaaGreatDoor
set_option maxRecDepth 20000
namespace Go.Proofs.YtnkdlkgannnfhaaGreatDoor
open Go Go.Eng
def twoE (p : List Pnl) (r : Rul) (a b : List Mrk) : Int := firstE [rulE r, mrksPE p a, onPE p b]
theorem twoE_eq (p : List Pnl) (r : Rul) (a b : List Mrk) : firstE [rulE r, mrksPE p a, mrksPE p b] = twoE p r a b := by
  unfold twoE mrksPE
  simp only [firstE]
  grind
theorem twoE_zero {p : List Pnl} {r : Rul} {a b : List Mrk} (h : twoE p r a b = 0) : rulE r = 0 ∧ pansE p = 0 ∧ onPE p a = 0 ∧ onPE p b = 0 := by
  unfold twoE mrksPE at h
  simp only [firstE] at h
  grind
theorem rulE_bd {r : Rul} (h : rulE r = 0) : rBd r := by
  unfold rulE at h
  unfold rBd
  grind
theorem onPE_mBd {p : List Pnl} {l : List Mrk} (h : onPE p l = 0) : l.length ≤ 60 ∧ ∀ i, i < l.length → mBd (l.getD i mk0) := by
  obtain ⟨h1, h2⟩ := mrks_bd (onPE_bd h).1
  refine ⟨h1, fun i hi => ?_⟩
  have := h2 i hi
  unfold mBd
  omega
-- mark.checkTwo
theorem z145 (p : List Pnl) (r : Rul) (a b : List Mrk) (hp : pnOk p) (ha : mkOk a) (hb1 : mkOk b) : FSpec Tryz.prog 145 [.d (pnls p), .agg ((ruF r).map .d), .d (mrks a), .d (mrks b)] [] (fun x r' => x = .d (.int .i64 (twoE p r a b)) ∧ r' = []) := by
  refine spec_of hT (C := []) Tryz.func145 rfl Tryz.call145 rfl rfl rfl ?_
  conv => whnf
  repeat' (first
    | (refine CallX.exact (s102 r) rfl rfl ?_; rotate_right; conv => whnf)
    | (refine CallX.exact (s100 p a hp ha) rfl rfl ?_; rotate_right; conv => whnf)
    | (refine CallX.exact (s159 p b hp.1 hb1) rfl rfl ?_; rotate_right; conv => whnf)
    | (refine CallX.pure (s105 [_, _, _] (by simp)) ⟨SV.le_lit (by rfl) (by rfl), trivial⟩ rfl ?_; conv => whnf)
    | (refine br_intro (fun hb => ?_) (fun hb => ?_) <;> (try simp only [decide_eq_true_eq, decide_eq_false_iff_not, Bool.not_eq_true', Bool.not_eq_false', Bool.and_eq_true, Bool.or_eq_true, beq_iff_eq, not_and, Int.not_le, Int.not_lt, Int.toNat_natCast, beq_eq_false_iff_ne, ne_eq, eq_self, not_true_eq_false, not_false_eq_true] at hb) <;> (conv => whnf))
    | omega
    | (refine And.intro ?_ ?_; ((try dsimp only); first | omega | (refine ⟨by omega, by omega, Int.le_trans (Int.mul_le_mul_of_nonneg_right (Int.ofNat_le.2 (Nat.le_of_ble_eq_true (rfl : Nat.ble _ 1024 = true))) (by omega)) (by omega), by omega⟩) | (refine Nat.le_trans (Nat.mul_le_mul_left _ (Nat.le_of_ble_eq_true (rfl : Nat.ble _ 1024 = true))) ?_; omega) | (unfold inI64; omega) | (constructor <;> omega) | (simp only [inI64, List.length_cons, List.length_append, List.length_nil, List.length_set] at *; omega) | decide | (unfold inI64; decide)); conv => whnf)
    | omega | decide | assumption)
  refine .ret _ ?_
  conv => whnf
  refine ⟨[], ⟨?_, rfl⟩, trivial⟩
  conv => lhs; whnf
  rfl
theorem mkOk_of {c : Int} {k : Nat} {l : List Mrk} (h : allK (mkB c) k l) (hk : k ≤ 100) : mkOk l :=
  ⟨by have := h.1; omega, fun x hx => by have := (h.2 x hx).1; unfold mkK; omega⟩
theorem pnOk_of {k : Nat} {l : List Pnl} (h : allK pnG k l) (hk : k ≤ 100) : pnOk l :=
  ⟨by have := h.1; omega, fun x hx => by have := h.2 x hx; unfold pnG at this; unfold pnK; omega⟩
abbrev skV (p : List Pnl) (r : Rul) (a b : List Mrk) : SV := .agg [.d (pnls p), .d (.int .i64 r.near), .d (.int .i64 r.slack), .d (.int .i64 r.join), .d (.int .i64 r.part), .d (mrks a), .d (mrks b), .d (.int .i64 (twoE p r a b))]
-- sketchOf
theorem z46 (n : Nat) (L : Nat → Int) (hL : Rok n L) (a : Int) (h0 : 0 ≤ a) (ha : a ≤ 2^36) :
    FSpec Tryz.prog 46 [.ptr 1000000 0] [(1000000, strm n L a)] (fun y r => (∃ p z m o, allK pnG 3 p ∧ allK mkG 8 m ∧ allK (mkB 1099511627792) 10 o ∧ y = skV p z m o) ∧ Moved n L a 400 r) := by
  refine spec_of hT (C := []) Tryz.func46 rfl Tryz.call46 rfl rfl rfl ?_
  conv => whnf
  repeat' (first
    | (refine CallX.of (s95 n L hL _ ?_ ?_ ) [(1000000, 1000000)] rfl ⟨SV.le_refl _, trivial⟩ ⟨Res.le_refl _, trivial⟩ rfl rfl ?_; rotate_right; rintro x rout ⟨⟨p, q1, rfl⟩, ⟨c, c1, c2, rfl⟩⟩; have hp := pnOk_of q1 (by omega); refine ⟨rfl, ?_⟩; conv => whnf)
    | (refine CallX.of (s97 n L hL _ ?_ ?_ ) [(1000000, 1000000)] rfl ⟨SV.le_refl _, trivial⟩ ⟨Res.le_refl _, trivial⟩ rfl rfl ?_; rotate_right; rintro x rout ⟨⟨z, rfl⟩, ⟨c, c1, c2, rfl⟩⟩; refine ⟨rfl, ?_⟩; conv => whnf)
    | (refine CallX.of (s64 n L hL _ ?_ ?_ _ _ ?_ ?_ ?_ ?_) [(1000000, 1000000)] rfl ⟨SV.le_refl _, SV.le_refl _, SV.le_refl _, trivial⟩ ⟨Res.le_refl _, trivial⟩ rfl rfl ?_; rotate_right; rintro x rout ⟨⟨m, hm1, hm2, rfl⟩, ⟨c, c1, c2, rfl⟩⟩; refine ⟨rfl, ?_⟩; conv => whnf)
    | (refine CallX.of (s96 n L hL _ ?_ ?_ m ?_ ?_) [(1000000, 1000000)] rfl ⟨SV.le_refl _, SV.le_refl _, trivial⟩ ⟨Res.le_refl _, trivial⟩ rfl rfl ?_; rotate_right; rintro x rout ⟨⟨m1, q2, rfl⟩, ⟨c, c1, c2, rfl⟩⟩; have hm := mkOk_of q2 (by omega); refine ⟨rfl, ?_⟩; conv => whnf)
    | (refine CallX.of (z141 n L hL _ ?_ ?_ m1 8 (by omega) 1099511627776 (by omega) (by omega) (allK_le q2 (by omega))) [(1000000, 1000000)] rfl ⟨SV.le_refl _, SV.le_refl _, trivial⟩ ⟨Res.le_refl _, trivial⟩ rfl rfl ?_; rotate_right; rintro x rout ⟨⟨o, q3, rfl⟩, ⟨c, c1, c2, rfl⟩⟩; have ho := mkOk_of q3 (by omega); refine ⟨rfl, ?_⟩; conv => whnf)
    | (refine CallX.exact (s103 z) rfl rfl ?_; rotate_right; conv => whnf)
    | (refine CallX.exact (s101 p m1 hp hm) rfl rfl ?_; rotate_right; conv => whnf)
    | (refine CallX.exact (s101 p o hp ho) rfl rfl ?_; rotate_right; conv => whnf)
    | (refine CallX.pure (s17 [rulE z, mrksPE p m1, mrksPE p o] (by simp)) ⟨SV.le_lit (by rfl) (by rfl), trivial⟩ rfl ?_; conv => whnf)
    | (refine br_intro (fun hb => ?_) (fun hb => ?_) <;> (try simp only [decide_eq_true_eq, decide_eq_false_iff_not, Bool.not_eq_true', Bool.not_eq_false', Bool.and_eq_true, Bool.or_eq_true, beq_iff_eq, not_and, Int.not_le, Int.not_lt, Int.toNat_natCast, beq_eq_false_iff_ne, ne_eq, eq_self, not_true_eq_false, not_false_eq_true] at hb) <;> (conv => whnf))
    | (refine RegX.rule (id := 3) hT rfl [] [(0, []), (1, []), (3, [0, 1]), (4, [0, 1]), (5, [0, 1, 3, 4]), (6, [0, 1, 3, 4]), (8, [0, 1, 3, 4, 5, 6]), (9, [0, 1, 3, 4, 5, 6]), (10, [0, 1, 3, 4, 5, 6, 8, 9]), (11, [0, 1, 3, 4, 5, 6, 8, 9]), (2, [3, 4, 5, 6, 8, 9, 10, 11]), (7, [8, 9, 10, 11]), (12, []), (13, []), (14, []), (15, []), (16, [])] (by decide +kernel) ?_; conv => whnf)
    | omega
    | (refine And.intro ?_ ?_; ((try dsimp only); first | omega | (refine ⟨by omega, by omega, Int.le_trans (Int.mul_le_mul_of_nonneg_right (Int.ofNat_le.2 (Nat.le_of_ble_eq_true (rfl : Nat.ble _ 1024 = true))) (by omega)) (by omega), by omega⟩) | (refine Nat.le_trans (Nat.mul_le_mul_left _ (Nat.le_of_ble_eq_true (rfl : Nat.ble _ 1024 = true))) ?_; omega) | (unfold inI64; omega) | (constructor <;> omega) | (simp only [inI64, List.length_cons, List.length_append, List.length_nil, List.length_set] at *; omega) | decide | (unfold inI64; decide)); conv => whnf)
    | omega | decide | assumption)
  refine .ret _ ?_
  conv => whnf
  refine ⟨[(1000000, strm n L _)], ⟨⟨p, z, m1, o, q1, allK_le q2 (by omega), q3, ?_⟩, _, by omega, by omega, rfl⟩, Res.le_refl _, trivial⟩
  rw [show skV p z m1 o = .agg [.d (pnls p), .d (.int .i64 z.near), .d (.int .i64 z.slack), .d (.int .i64 z.join), .d (.int .i64 z.part), .d (mrks m1), .d (mrks o), .d (.int .i64 (firstE [rulE z, mrksPE p m1, mrksPE p o]))] from by rw [twoE_eq]]
  rfl
end Go.Proofs.YtnkdlkgannnfhaaGreatDoor
set_option maxRecDepth 20000
namespace Go.Proofs.YtnkdlkgannnfhaaGreatDoor
open Go Go.Eng
theorem SV.le_takeP {α : Type} {f : α → List DV} {d : α} {l : List α} {k n m : Nat} {h : Nat → List DV} (hn : n = m) (hm : m ≤ l.length) (hg : ∀ i, i < m → h i = rowF f d l i) :
    SV.le (.d (.ro k n h)) (.d (seqD k f d (l.take m))) :=
  SV.le_ro (by rw [List.length_take]; omega) (fun i hi => by
    rw [hg i (by omega)]
    simp only [rowF]
    rw [List.getD_eq_getElem?_getD, List.getD_eq_getElem?_getD, List.getElem?_take_of_lt (by omega)])
def hadB (m : List Prg) (i : Nat) : Bool := (m.take i).any fun x => x.b == (m.getD i pr0).b
def prE1 (r : Rul) (a b : List Mrk) (m : List Prg) (i : Nat) : Int :=
  if ¬ ((0 ≤ (m.getD i pr0).a ∧ (m.getD i pr0).a ≤ (a.length : Int) - 1) ∧ (0 ≤ (m.getD i pr0).b ∧ (m.getD i pr0).b ≤ (b.length : Int) - 1)) then 8
  else if 0 < i ∧ (m.getD i pr0).a ≤ (m.getD (i - 1) pr0).a then 7
  else if hadB m i = true then 6
  else if canB r (a.getD (m.getD i pr0).a.toNat mk0) (b.getD (m.getD i pr0).b.toNat mk0) = false then 16 else 0
def prsE (r : Rul) (a b : List Mrk) (m : List Prg) : Int := firstAt (prE1 r a b m) m.length
def apN (a b : List Mrk) (m : List Prg) : Nat → Int
  | 0 => 0
  | i + 1 => apN a b m i + distM (a.getD (m.getD i pr0).a.toNat mk0) (b.getD (m.getD i pr0).b.toNat mk0)
abbrev mB (a : List Mrk) : Prop := a.length ≤ 60 ∧ ∀ i, i < a.length → mBd (a.getD i mk0)
theorem dist_bd {a b : Mrk} (ha : mBd a) (hb : mBd b) : 0 ≤ distM a b ∧ distM a b ≤ 50000000 := by
  unfold mBd at ha hb
  exact distM_bd ⟨ha.1, ha.2.1, ha.2.2.1, ha.2.2.2.1⟩ ⟨hb.1, hb.2.1, hb.2.2.1, hb.2.2.2.1⟩
theorem prE1_in {r : Rul} {a b : List Mrk} {m : List Prg} {i : Nat} (h : prE1 r a b m i = 0) : (0 ≤ (m.getD i pr0).a ∧ (m.getD i pr0).a < (a.length : Int)) ∧ (0 ≤ (m.getD i pr0).b ∧ (m.getD i pr0).b < (b.length : Int)) := by
  unfold prE1 at h
  split at h
  · cases h
  · omega
-- PairingsFault
set_option maxHeartbeats 1000000 in
theorem z51 (r : Rul) (a b : List Mrk) (m : List Prg) (hr : rBd r) (ha : mB a) (hb2 : mB b) (hml : m.length ≤ 2^20) : FSpec Tryz.prog 51 [.agg ((ruF r).map .d), .d (mrks a), .d (mrks b), .d (prgs m)] [] (fun x r' => x = .d (.int .i64 (prsE r a b m)) ∧ r' = []) := by
  have ha1 := ha.1
  have hb1 := hb2.1
  refine spec_of hT (C := []) Tryz.func51 rfl Tryz.call51 rfl rfl rfl ?_
  conv => whnf
  refine LoopX.rule hT (C := []) (ι := Nat) (fun i => i ≤ m.length ∧ ∀ j, j < i → prE1 r a b m j = 0) (fun i => mkSt [(1, .d (mrks a)), (2, .d (mrks b)), (3, .d (prgs m)), (4, .ptr 4 0), (11, .d (prgs m)), (12, .d (.int .i64 m.length)), (13, .d (.int .i64 i))] [(4, .cells 76 ((ruF r).map .d))]) (fun i => m.length - i) 0 ⟨by omega, by omega⟩ (by refine Entails.mk' [(4, 4)] rfl rfl ?_ ?_ <;> repeat' (first | exact True.intro | exact SV.le_refl _ | exact Res.le_refl _ | exact SV.le_int (by omega) | exact SV.le_any _ | refine And.intro ?_ ?_)) ?_
  rintro i ⟨p1, p2⟩
  have e1 : (i : Int).toNat = i := Int.toNat_natCast i
  have hqa : (m.getD (i : Int).toNat pr0).a = (m.getD i pr0).a := rfl
  have hqb : (m.getD (i : Int).toNat pr0).b = (m.getD i pr0).b := rfl
  have hbad : ∀ e : Int, i < m.length → e ≠ 0 → prE1 r a b m i = e → prsE r a b m = e := fun e h h1 h2 => firstAt_eq h p2 h1 h2
  have h146 := z146p (m.getD (i : Int).toNat pr0) 150 (m.take i) (by rw [List.length_take]; omega) (fun x => x.b == (m.getD (i : Int).toNat pr0).b) (fun x _ => z150 x _)
  rw [show (m.take i).any (fun x => x.b == (m.getD (i : Int).toNat pr0).b) = hadB m i from rfl] at h146
  have h151 := fun (h1 : 0 ≤ (m.getD i pr0).a ∧ (m.getD i pr0).a < (a.length : Int)) (h2 : 0 ≤ (m.getD i pr0).b ∧ (m.getD i pr0).b < (b.length : Int)) => z151 r (a.getD (m.getD i pr0).a.toNat mk0) (b.getD (m.getD i pr0).b.toNat mk0) hr (ha.2 _ (by omega)) (hb2.2 _ (by omega))
  conv => whnf
  repeat' (first
    | (refine CallX.exact (s109 _ _ _) rfl rfl ?_; rotate_right; conv => whnf)
    | (refine CallX.of h146 [(1000001, 10)] rfl ⟨SV.le_takeP (m := i) (by omega) (by omega) (fun j hj => by rw [show Int.toNat 0 + j = j by simp]), SV.le_refl _, trivial⟩ ⟨Res.le_refl _, trivial⟩ rfl rfl ?_; rintro x rout ⟨rfl, rfl⟩; refine ⟨rfl, ?_⟩; conv => whnf)
    | (refine CallX.exact (h151 (by omega) (by omega)) rfl rfl ?_; rotate_right; conv => whnf)
    | (refine br_intro (fun hb => ?_) (fun hb => ?_) <;> (try simp only [decide_eq_true_eq, decide_eq_false_iff_not, Bool.not_eq_true', Bool.not_eq_false', Bool.and_eq_true, Bool.or_eq_true, beq_iff_eq, not_and, Int.not_le, Int.not_lt, Int.toNat_natCast, beq_eq_false_iff_ne, ne_eq, eq_self, not_true_eq_false, not_false_eq_true] at hb) <;> (conv => whnf))
    | (refine RegX.rule (id := 6) hT rfl [] [(0, []), (1, []), (2, []), (3, []), (4, []), (5, [3, 4]), (6, [3, 4, 5]), (7, [3, 4, 5]), (8, [3, 4]), (9, [3, 4]), (10, [3, 4]), (11, []), (12, []), (13, [])] (by decide +kernel) ?_; conv => whnf)
    | (refine RegX.rule (id := 10) hT rfl [] [(0, []), (1, [0]), (2, [0, 1]), (3, [0, 1]), (4, [0]), (5, [0]), (6, [0, 1, 2, 3, 4, 5]), (7, [0, 1, 2, 3, 4, 5, 6]), (8, [0, 1, 2, 3, 4, 5, 6]), (9, [0, 1, 2, 3, 4, 5]), (10, [0, 1, 2, 3, 4, 5]), (11, []), (12, []), (13, [])] (by decide +kernel) ?_; conv => whnf)
    | omega
    | (refine And.intro ?_ ?_; ((try dsimp only); first | omega | (refine ⟨by omega, by omega, Int.le_trans (Int.mul_le_mul_of_nonneg_right (Int.ofNat_le.2 (Nat.le_of_ble_eq_true (rfl : Nat.ble _ 1024 = true))) (by omega)) (by omega), by omega⟩) | (refine Nat.le_trans (Nat.mul_le_mul_left _ (Nat.le_of_ble_eq_true (rfl : Nat.ble _ 1024 = true))) ?_; omega) | (unfold inI64; omega) | (constructor <;> omega) | (simp only [inI64, List.length_cons, List.length_append, List.length_nil, List.length_set] at *; omega) | decide | (unfold inI64; decide)); conv => whnf)
    | omega | decide | assumption)
  all_goals first
    | (refine ⟨i + 1, ⟨by omega, first_step p2 (by clear p2 hbad h146 h151 ha hb2 hr; simp only [e1, toNat_pred] at *; unfold prE1; grind)⟩, by omega, (by refine Entails.mk' [(4, 4)] rfl rfl ?_ ?_ <;> repeat' (first | exact True.intro | exact SV.le_refl _ | exact Res.le_refl _ | exact SV.le_int (by omega) | exact SV.le_any _ | refine And.intro ?_ ?_))⟩)
    | (refine .ret _ ?_
       conv => whnf
       refine ⟨[], ⟨?_, rfl⟩, trivial⟩
       conv => lhs; whnf
       congr 2
       first
         | exact (hbad _ (by omega) (by decide) (by clear p2 hbad h146 h151 ha hb2 hr; simp only [e1, toNat_pred] at *; unfold prE1; grind)).symm
         | (have : i = m.length := by omega
            subst this
            unfold prsE; rw [firstAt_zero p2]))
-- ApartOf
theorem z52 (r : Rul) (a b : List Mrk) (m : List Prg) (ha : mB a) (hb2 : mB b) (hml : m.length ≤ 2^20) (hz : prsE r a b m = 0) : FSpec Tryz.prog 52 [.d (mrks a), .d (mrks b), .d (prgs m)] [] (fun x r' => x = .d (.int .i64 (apN a b m m.length)) ∧ r' = []) := by
  have hall : ∀ j, j < m.length → prE1 r a b m j = 0 := firstAt_all hz
  refine spec_of hT (C := []) Tryz.func52 rfl Tryz.call52 rfl rfl rfl ?_
  conv => whnf
  refine LoopX.rule hT (C := []) (ι := Nat) (fun i => i ≤ m.length ∧ (0 ≤ apN a b m i ∧ apN a b m i ≤ 50000000 * i)) (fun i => mkSt [(0, .d (mrks a)), (1, .d (mrks b)), (7, .d (.int .i64 (apN a b m i))), (10, .d (prgs m)), (11, .d (.int .i64 m.length)), (12, .d (.int .i64 i))] []) (fun i => m.length - i) 0 ⟨by omega, by simp [apN]⟩ (by refine Entails.mk' [] rfl rfl ?_ ?_ <;> repeat' (first | exact True.intro | exact SV.le_refl _ | exact Res.le_refl _ | exact SV.le_int (by omega) | exact SV.le_any _ | refine And.intro ?_ ?_)) ?_
  rintro i ⟨p1, p2⟩
  have e1 : (i : Int).toNat = i := Int.toNat_natCast i
  have hqa : (m.getD (i : Int).toNat pr0).a = (m.getD i pr0).a := rfl
  have hqb : (m.getD (i : Int).toNat pr0).b = (m.getD i pr0).b := rfl
  by_cases hi : i < m.length
  · have hin := prE1_in (hall i hi)
    have hma := ha.2 (m.getD i pr0).a.toNat (by omega)
    have hmb := hb2.2 (m.getD i pr0).b.toNat (by omega)
    have hd := dist_bd hma hmb
    have hs : apN a b m (i + 1) = apN a b m i + distM (a.getD (m.getD i pr0).a.toNat mk0) (b.getD (m.getD i pr0).b.toNat mk0) := rfl
    have h152 := z152 _ _ hma hmb
    conv => whnf
    repeat' (first
      | (refine CallX.exact (h152) rfl rfl ?_; rotate_right; conv => whnf)
      | (refine br_intro (fun hb => ?_) (fun hb => ?_) <;> (try simp only [decide_eq_true_eq, decide_eq_false_iff_not, Bool.not_eq_true', Bool.not_eq_false', Bool.and_eq_true, Bool.or_eq_true, beq_iff_eq, not_and, Int.not_le, Int.not_lt, Int.toNat_natCast, beq_eq_false_iff_ne, ne_eq, eq_self, not_true_eq_false, not_false_eq_true] at hb) <;> (conv => whnf))
      | (refine RegX.rule (id := 5) hT rfl [] [(0, []), (1, [0]), (2, [0, 1]), (3, [0, 1]), (4, [0]), (5, [0]), (6, [0, 1, 2, 3, 4, 5]), (7, [0, 1, 2, 3, 4, 5, 6]), (8, [0, 1, 2, 3, 4, 5, 6]), (9, [0, 1, 2, 3, 4, 5]), (10, [0, 1, 2, 3, 4, 5]), (11, [0]), (12, []), (13, [])] (by decide +kernel) ?_; conv => whnf)
      | omega
      | (refine And.intro ?_ ?_; ((try dsimp only); first | omega | (refine ⟨by omega, by omega, Int.le_trans (Int.mul_le_mul_of_nonneg_right (Int.ofNat_le.2 (Nat.le_of_ble_eq_true (rfl : Nat.ble _ 1024 = true))) (by omega)) (by omega), by omega⟩) | (refine Nat.le_trans (Nat.mul_le_mul_left _ (Nat.le_of_ble_eq_true (rfl : Nat.ble _ 1024 = true))) ?_; omega) | (unfold inI64; omega) | (constructor <;> omega) | (simp only [inI64, List.length_cons, List.length_append, List.length_nil, List.length_set] at *; omega) | decide | (unfold inI64; decide)); conv => whnf)
      | omega | decide | assumption)
    exact ⟨i + 1, ⟨by omega, by rw [hs]; omega⟩, by omega, Entails.mk' [] rfl rfl ⟨SV.le_refl _, SV.le_refl _, SV.le_refl _, SV.le_refl _, SV.le_refl _, SV.le_refl _, trivial⟩ trivial⟩
  · obtain rfl : i = m.length := by omega
    conv => whnf
    repeat' (first
      | (refine br_intro (fun hb => ?_) (fun hb => ?_) <;> (try simp only [decide_eq_true_eq, decide_eq_false_iff_not, Bool.not_eq_true', Bool.not_eq_false', Bool.and_eq_true, Bool.or_eq_true, beq_iff_eq, not_and, Int.not_le, Int.not_lt, Int.toNat_natCast, beq_eq_false_iff_ne, ne_eq, eq_self, not_true_eq_false, not_false_eq_true] at hb) <;> (conv => whnf))
      | (refine RegX.rule (id := 5) hT rfl [] [(0, []), (1, [0]), (2, [0, 1]), (3, [0, 1]), (4, [0]), (5, [0]), (6, [0, 1, 2, 3, 4, 5]), (7, [0, 1, 2, 3, 4, 5, 6]), (8, [0, 1, 2, 3, 4, 5, 6]), (9, [0, 1, 2, 3, 4, 5]), (10, [0, 1, 2, 3, 4, 5]), (11, [0]), (12, []), (13, [])] (by decide +kernel) ?_; conv => whnf)
      | omega
      | (refine And.intro ?_ ?_; ((try dsimp only); first | omega | (refine ⟨by omega, by omega, Int.le_trans (Int.mul_le_mul_of_nonneg_right (Int.ofNat_le.2 (Nat.le_of_ble_eq_true (rfl : Nat.ble _ 1024 = true))) (by omega)) (by omega), by omega⟩) | (refine Nat.le_trans (Nat.mul_le_mul_left _ (Nat.le_of_ble_eq_true (rfl : Nat.ble _ 1024 = true))) ?_; omega) | (unfold inI64; omega) | (constructor <;> omega) | (simp only [inI64, List.length_cons, List.length_append, List.length_nil, List.length_set] at *; omega) | decide | (unfold inI64; decide)); conv => whnf)
      | omega | decide | assumption)
    refine .ret _ ?_
    conv => whnf
    refine ⟨[], ⟨?_, rfl⟩, trivial⟩
    conv => lhs; whnf
    all_goals rfl
def apE (p : List Pnl) (r : Rul) (a b : List Mrk) (m : List Prg) : Int := if twoE p r a b ≠ 0 then twoE p r a b else prsE r a b m
-- mark.Apart
set_option maxHeartbeats 1000000 in
theorem z50 (p : List Pnl) (r : Rul) (a b : List Mrk) (m : List Prg) (hp : pnOk p) (hka : mkOk a) (hkb : mkOk b) (hml : m.length ≤ 2^20) : FSpec Tryz.prog 50 [.d (pnls p), .agg ((ruF r).map .d), .d (mrks a), .d (mrks b), .d (prgs m)] [] (fun x r' => x = .tup [.d (.int .i64 (if apE p r a b m = 0 then apN a b m m.length else 0)), .d (.int .i64 (apE p r a b m))] ∧ r' = []) := by
  have h145 := z145 p r a b hp hka hkb
  by_cases hz : twoE p r a b = 0
  · rw [hz] at h145
    obtain ⟨q1, q2, q3, q4⟩ := twoE_zero hz
    have hr := rulE_bd q1
    have ha : mB a := onPE_mBd q3
    have hb2 : mB b := onPE_mBd q4
    have ha1 := ha.1
    have hb1 := hb2.1
    have hE : apE p r a b m = prsE r a b m := by unfold apE; rw [if_neg (by omega)]
    rw [hE]
    refine spec_of hT (C := []) Tryz.func50 rfl Tryz.call50 rfl rfl rfl ?_
    conv => whnf
    repeat' (first
      | (refine CallX.exact (h145) rfl rfl ?_; rotate_right; conv => whnf)
      | (refine br_intro (fun hb => ?_) (fun hb => ?_) <;> (try simp only [decide_eq_true_eq, decide_eq_false_iff_not, Bool.not_eq_true', Bool.not_eq_false', Bool.and_eq_true, Bool.or_eq_true, beq_iff_eq, not_and, Int.not_le, Int.not_lt, Int.toNat_natCast, beq_eq_false_iff_ne, ne_eq, eq_self, not_true_eq_false, not_false_eq_true] at hb) <;> (conv => whnf))
      | (refine RegX.rule (id := 10) hT rfl [] [(0, []), (1, []), (2, []), (3, []), (4, []), (5, [3, 4]), (6, [3, 4, 5]), (7, [3, 4, 5]), (8, [3, 4]), (9, [3, 4]), (10, [3, 4]), (11, []), (12, []), (13, [])] (by decide +kernel) ?_; conv => whnf)
      | (refine RegX.rule (id := 14) hT rfl [] [(0, []), (1, [0]), (2, [0, 1]), (3, [0, 1]), (4, [0]), (5, [0]), (6, [0, 1, 2, 3, 4, 5]), (7, [0, 1, 2, 3, 4, 5, 6]), (8, [0, 1, 2, 3, 4, 5, 6]), (9, [0, 1, 2, 3, 4, 5]), (10, [0, 1, 2, 3, 4, 5]), (11, []), (12, []), (13, [])] (by decide +kernel) ?_; conv => whnf)
      | (refine RegX.rule (id := 16) hT rfl [] [(0, []), (1, [0]), (2, [0, 1]), (3, [0, 1]), (4, [0]), (5, [0]), (6, [0, 1, 2, 3, 4, 5]), (7, [0, 1, 2, 3, 4, 5, 6]), (8, [0, 1, 2, 3, 4, 5, 6]), (9, [0, 1, 2, 3, 4, 5]), (10, [0, 1, 2, 3, 4, 5]), (11, [0]), (12, []), (13, [])] (by decide +kernel) ?_; conv => whnf)
      | omega
      | (refine And.intro ?_ ?_; ((try dsimp only); first | omega | (refine ⟨by omega, by omega, Int.le_trans (Int.mul_le_mul_of_nonneg_right (Int.ofNat_le.2 (Nat.le_of_ble_eq_true (rfl : Nat.ble _ 1024 = true))) (by omega)) (by omega), by omega⟩) | (refine Nat.le_trans (Nat.mul_le_mul_left _ (Nat.le_of_ble_eq_true (rfl : Nat.ble _ 1024 = true))) ?_; omega) | (unfold inI64; omega) | (constructor <;> omega) | (simp only [inI64, List.length_cons, List.length_append, List.length_nil, List.length_set] at *; omega) | decide | (unfold inI64; decide)); conv => whnf)
      | omega | decide | assumption)
    refine LoopX.rule hT (C := []) (ι := Nat) (fun i => (i ≤ m.length ∧ ∀ j, j < i → prE1 r a b m j = 0) ∧ (0 ≤ apN a b m i ∧ apN a b m i ≤ 50000000 * i)) (fun i => mkSt [(2, .d (mrks a)), (3, .d (mrks b)), (4, .d (prgs m)), (6, .ptr 6 0), (13, .d (.int .i64 (apN a b m i))), (24, .d (prgs m)), (25, .d (.int .i64 m.length)), (26, .d (.int .i64 i))] [(6, .cells 76 ((ruF r).map .d))]) (fun i => m.length - i) 0 ⟨⟨by omega, by omega⟩, by simp [apN]⟩ (by refine Entails.mk' [(6, 6)] rfl rfl ?_ ?_ <;> repeat' (first | exact True.intro | exact SV.le_refl _ | exact Res.le_refl _ | exact SV.le_int (by omega) | exact SV.le_any _ | refine And.intro ?_ ?_)) ?_
    rintro i ⟨⟨p1, p2⟩, p3⟩
    have e1 : (i : Int).toNat = i := Int.toNat_natCast i
    have hqa : (m.getD (i : Int).toNat pr0).a = (m.getD i pr0).a := rfl
    have hqb : (m.getD (i : Int).toNat pr0).b = (m.getD i pr0).b := rfl
    have hbad : ∀ e : Int, i < m.length → e ≠ 0 → prE1 r a b m i = e → prsE r a b m = e := fun e h h1 h2 => firstAt_eq h p2 h1 h2
    have h146 := z146p (m.getD (i : Int).toNat pr0) 147 (m.take i) (by rw [List.length_take]; omega) (fun x => x.b == (m.getD (i : Int).toNat pr0).b) (fun x _ => z147 x _)
    rw [show (m.take i).any (fun x => x.b == (m.getD (i : Int).toNat pr0).b) = hadB m i from rfl] at h146
    have h148 := fun (h1 : 0 ≤ (m.getD i pr0).a ∧ (m.getD i pr0).a < (a.length : Int)) (h2 : 0 ≤ (m.getD i pr0).b ∧ (m.getD i pr0).b < (b.length : Int)) => z148 r (a.getD (m.getD i pr0).a.toNat mk0) (b.getD (m.getD i pr0).b.toNat mk0) hr (ha.2 _ (by omega)) (hb2.2 _ (by omega))
    have h149 := fun (h1 : 0 ≤ (m.getD i pr0).a ∧ (m.getD i pr0).a < (a.length : Int)) (h2 : 0 ≤ (m.getD i pr0).b ∧ (m.getD i pr0).b < (b.length : Int)) => z149 (a.getD (m.getD i pr0).a.toNat mk0) (b.getD (m.getD i pr0).b.toNat mk0) (ha.2 _ (by omega)) (hb2.2 _ (by omega))
    have hd := fun (h1 : 0 ≤ (m.getD i pr0).a ∧ (m.getD i pr0).a < (a.length : Int)) (h2 : 0 ≤ (m.getD i pr0).b ∧ (m.getD i pr0).b < (b.length : Int)) => dist_bd (ha.2 (m.getD i pr0).a.toNat (by omega)) (hb2.2 (m.getD i pr0).b.toNat (by omega))
    have hs : apN a b m (i + 1) = apN a b m i + distM (a.getD (m.getD i pr0).a.toNat mk0) (b.getD (m.getD i pr0).b.toNat mk0) := rfl
    conv => whnf
    repeat' (first
      | (refine CallX.exact (s119 _ _ _) rfl rfl ?_; rotate_right; conv => whnf)
      | (refine CallX.of h146 [(1000001, 15)] rfl ⟨SV.le_takeP (m := i) (by omega) (by omega) (fun j hj => by rw [show Int.toNat 0 + j = j by simp]), SV.le_refl _, trivial⟩ ⟨Res.le_refl _, trivial⟩ rfl rfl ?_; rintro x rout ⟨rfl, rfl⟩; refine ⟨rfl, ?_⟩; conv => whnf)
      | (refine CallX.exact (h148 (by omega) (by omega)) rfl rfl ?_; rotate_right; conv => whnf)
      | (refine CallX.exact (h149 (by omega) (by omega)) rfl rfl ?_; rotate_right; conv => whnf)
      | (refine And.intro (by have := hd (by omega) (by omega); unfold inI64; omega) ?_; conv => whnf)
      | (refine br_intro (fun hb => ?_) (fun hb => ?_) <;> (try simp only [decide_eq_true_eq, decide_eq_false_iff_not, Bool.not_eq_true', Bool.not_eq_false', Bool.and_eq_true, Bool.or_eq_true, beq_iff_eq, not_and, Int.not_le, Int.not_lt, Int.toNat_natCast, beq_eq_false_iff_ne, ne_eq, eq_self, not_true_eq_false, not_false_eq_true] at hb) <;> (conv => whnf))
      | (refine RegX.rule (id := 10) hT rfl [] [(0, []), (1, []), (2, []), (3, []), (4, []), (5, [3, 4]), (6, [3, 4, 5]), (7, [3, 4, 5]), (8, [3, 4]), (9, [3, 4]), (10, [3, 4]), (11, []), (12, []), (13, [])] (by decide +kernel) ?_; conv => whnf)
      | (refine RegX.rule (id := 14) hT rfl [] [(0, []), (1, [0]), (2, [0, 1]), (3, [0, 1]), (4, [0]), (5, [0]), (6, [0, 1, 2, 3, 4, 5]), (7, [0, 1, 2, 3, 4, 5, 6]), (8, [0, 1, 2, 3, 4, 5, 6]), (9, [0, 1, 2, 3, 4, 5]), (10, [0, 1, 2, 3, 4, 5]), (11, []), (12, []), (13, [])] (by decide +kernel) ?_; conv => whnf)
      | (refine RegX.rule (id := 16) hT rfl [] [(0, []), (1, [0]), (2, [0, 1]), (3, [0, 1]), (4, [0]), (5, [0]), (6, [0, 1, 2, 3, 4, 5]), (7, [0, 1, 2, 3, 4, 5, 6]), (8, [0, 1, 2, 3, 4, 5, 6]), (9, [0, 1, 2, 3, 4, 5]), (10, [0, 1, 2, 3, 4, 5]), (11, [0]), (12, []), (13, [])] (by decide +kernel) ?_; conv => whnf)
      | omega
      | (refine And.intro ?_ ?_; ((try dsimp only); first | omega | (refine ⟨by omega, by omega, Int.le_trans (Int.mul_le_mul_of_nonneg_right (Int.ofNat_le.2 (Nat.le_of_ble_eq_true (rfl : Nat.ble _ 1024 = true))) (by omega)) (by omega), by omega⟩) | (refine Nat.le_trans (Nat.mul_le_mul_left _ (Nat.le_of_ble_eq_true (rfl : Nat.ble _ 1024 = true))) ?_; omega) | (unfold inI64; omega) | (constructor <;> omega) | (simp only [inI64, List.length_cons, List.length_append, List.length_nil, List.length_set] at *; omega) | decide | (unfold inI64; decide)); conv => whnf)
      | omega | decide | assumption)
    all_goals first
      | (refine ⟨i + 1, ⟨⟨by omega, first_step p2 (by clear p2 hbad h146 h148 h149 hd ha hb2 hr; simp only [e1, toNat_pred] at *; unfold prE1; grind)⟩, by (rw [hs]; have := hd (by omega) (by omega); omega)⟩, by omega, Entails.mk' [(6, 6)] rfl rfl ⟨SV.le_refl _, SV.le_refl _, SV.le_refl _, SV.le_refl _, SV.le_refl _, SV.le_refl _, SV.le_refl _, SV.le_refl _, trivial⟩ ⟨Res.le_refl _, trivial⟩⟩)
      | (have : i = m.length := by omega
         subst this
         have hq : prsE r a b m = 0 := by unfold prsE; rw [firstAt_zero p2]
         rw [hq, if_pos rfl]
         refine .ret _ ?_
         conv => whnf
         exact ⟨[], ⟨rfl, rfl⟩, trivial⟩)
      | (have hq : prsE r a b m = 8 := hbad _ (by omega) (by decide) (by clear p2 hbad h146 h148 h149 hd ha hb2 hr; simp only [e1, toNat_pred] at *; unfold prE1; grind)
         rw [hq]
         refine .ret _ ?_
         conv => whnf
         exact ⟨[], ⟨rfl, rfl⟩, trivial⟩)
      | (have hq : prsE r a b m = 7 := hbad _ (by omega) (by decide) (by clear p2 hbad h146 h148 h149 hd ha hb2 hr; simp only [e1, toNat_pred] at *; unfold prE1; grind)
         rw [hq]
         refine .ret _ ?_
         conv => whnf
         exact ⟨[], ⟨rfl, rfl⟩, trivial⟩)
      | (have hq : prsE r a b m = 6 := hbad _ (by omega) (by decide) (by clear p2 hbad h146 h148 h149 hd ha hb2 hr; simp only [e1, toNat_pred] at *; unfold prE1; grind)
         rw [hq]
         refine .ret _ ?_
         conv => whnf
         exact ⟨[], ⟨rfl, rfl⟩, trivial⟩)
      | (have hq : prsE r a b m = 16 := hbad _ (by omega) (by decide) (by clear p2 hbad h146 h148 h149 hd ha hb2 hr; simp only [e1, toNat_pred] at *; unfold prE1; grind)
         rw [hq]
         refine .ret _ ?_
         conv => whnf
         exact ⟨[], ⟨rfl, rfl⟩, trivial⟩)
  · have hE : apE p r a b m = twoE p r a b := by unfold apE; rw [if_pos hz]
    rw [hE, if_neg hz]
    generalize twoE p r a b = e at h145 hz
    refine spec_of hT (C := []) Tryz.func50 rfl Tryz.call50 rfl rfl rfl ?_
    conv => whnf
    repeat' (first
      | (refine CallX.exact (h145) rfl rfl ?_; rotate_right; conv => whnf)
      | (refine br_intro (fun hb => ?_) (fun hb => ?_) <;> (try simp only [decide_eq_true_eq, decide_eq_false_iff_not, Bool.not_eq_true', Bool.not_eq_false', Bool.and_eq_true, Bool.or_eq_true, beq_iff_eq, not_and, Int.not_le, Int.not_lt, Int.toNat_natCast, beq_eq_false_iff_ne, ne_eq, eq_self, not_true_eq_false, not_false_eq_true] at hb) <;> (conv => whnf))
      | (refine RegX.rule (id := 10) hT rfl [] [(0, []), (1, []), (2, []), (3, []), (4, []), (5, [3, 4]), (6, [3, 4, 5]), (7, [3, 4, 5]), (8, [3, 4]), (9, [3, 4]), (10, [3, 4]), (11, []), (12, []), (13, [])] (by decide +kernel) ?_; conv => whnf)
      | (refine RegX.rule (id := 14) hT rfl [] [(0, []), (1, [0]), (2, [0, 1]), (3, [0, 1]), (4, [0]), (5, [0]), (6, [0, 1, 2, 3, 4, 5]), (7, [0, 1, 2, 3, 4, 5, 6]), (8, [0, 1, 2, 3, 4, 5, 6]), (9, [0, 1, 2, 3, 4, 5]), (10, [0, 1, 2, 3, 4, 5]), (11, []), (12, []), (13, [])] (by decide +kernel) ?_; conv => whnf)
      | (refine RegX.rule (id := 16) hT rfl [] [(0, []), (1, [0]), (2, [0, 1]), (3, [0, 1]), (4, [0]), (5, [0]), (6, [0, 1, 2, 3, 4, 5]), (7, [0, 1, 2, 3, 4, 5, 6]), (8, [0, 1, 2, 3, 4, 5, 6]), (9, [0, 1, 2, 3, 4, 5]), (10, [0, 1, 2, 3, 4, 5]), (11, [0]), (12, []), (13, [])] (by decide +kernel) ?_; conv => whnf)
      | omega
      | (refine And.intro ?_ ?_; ((try dsimp only); first | omega | (refine ⟨by omega, by omega, Int.le_trans (Int.mul_le_mul_of_nonneg_right (Int.ofNat_le.2 (Nat.le_of_ble_eq_true (rfl : Nat.ble _ 1024 = true))) (by omega)) (by omega), by omega⟩) | (refine Nat.le_trans (Nat.mul_le_mul_left _ (Nat.le_of_ble_eq_true (rfl : Nat.ble _ 1024 = true))) ?_; omega) | (unfold inI64; omega) | (constructor <;> omega) | (simp only [inI64, List.length_cons, List.length_append, List.length_nil, List.length_set] at *; omega) | decide | (unfold inI64; decide)); conv => whnf)
      | omega | decide | assumption)
    refine .ret _ ?_
    conv => whnf
    refine ⟨[], ⟨congrArg SV.tup ?_, rfl⟩, trivial⟩
    repeat' (refine cons_eq ?_ ?_)
    all_goals (conv => lhs; whnf)
    all_goals try (with_reducible rfl)
    all_goals rfl
end Go.Proofs.YtnkdlkgannnfhaaGreatDoor
set_option maxRecDepth 20000
namespace Go.Proofs.YtnkdlkgannnfhaaGreatDoor
open Go Go.Eng
abbrev rcell (st : MSt) : Res := .cells 212 [.d (prgs st.1), .d (.int .i64 st.2)]
def stepM (r : Rul) (a b : List Mrk) (d i : Nat) (now st : MSt) (k : Nat) : MSt := if okM r a b i now.1 k then mtch r a b d (i + 1) (now.1 ++ [⟨i, k⟩], now.2 + distM (a.getD i mk0) (b.getD k mk0)) st else st
theorem mtch_succ (r : Rul) (a b : List Mrk) (d i : Nat) (now st : MSt) : mtch r a b (d + 1) i now st = mtch r a b d (i + 1) now ((List.range b.length).foldl (stepM r a b d i now) st) := rfl
theorem mtch_succL {r : Rul} {a b : List Mrk} {m : Mrk} (d i : Nat) (now st : MSt) (hm : sameM (a.getD i mk0) m = true) : mtch r a b (d + 1) i now st = mtch r a b d (i + 1) now ((likeM b m).foldl (stepM r a b d i now) st) := by
  rw [mtch_succ]
  exact congrArg _ (mtch_like d i now st hm).symm
theorem likeM_lt {b : List Mrk} {m : Mrk} {j : Nat} (h : j < (likeM b m).length) : (likeM b m).getD j 0 < b.length := by
  have : (likeM b m).getD j 0 ∈ likeM b m := getD_mem h
  unfold likeM at this
  exact List.mem_range.1 (List.mem_filter.1 this).1
def nowOk (i : Nat) (m : MSt) : Prop := m.1.length ≤ i ∧ 0 ≤ m.2 ∧ m.2 ≤ 50000000 * m.1.length
theorem nowOk_snoc {i k : Nat} {m : MSt} {x : Int} (h : nowOk i m) (h1 : 0 ≤ x) (h2 : x ≤ 50000000) : nowOk (i + 1) (m.1 ++ [⟨i, k⟩], m.2 + x) := by
  unfold nowOk at *
  simp only [List.length_append, List.length_singleton]
  omega
theorem nowOk_up {i : Nat} {m : MSt} (h : nowOk i m) : nowOk (i + 1) m := by unfold nowOk at *; omega
theorem foldM_len {r : Rul} {a b : List Mrk} {d i : Nat} {now st : MSt} {n : Nat} (h1 : now.1.length + d + 1 ≤ n) (h2 : st.1.length ≤ n) (l : List Nat) : (l.foldl (stepM r a b d i now) st).1.length ≤ n := by
  refine foldl_inv (q := fun s : MSt => s.1.length ≤ n) (fun s k _ hs => ?_) h2
  unfold stepM
  split
  · exact mtch_len _ _ _ _ n (by simp; omega) hs
  · exact hs
-- group
set_option maxHeartbeats 2000000 in
theorem z143 (r : Rul) (a b : List Mrk) (m0 : Mrk) (hr : rBd r) (ha : a.length ≤ 60 ∧ ∀ i, i < a.length → mBd (a.getD i mk0)) (hb2 : b.length ≤ 60 ∧ ∀ i, i < b.length → mBd (b.getD i mk0)) :
    ∀ (d i : Nat) (now st : MSt), i + d ≤ a.length → (∀ j, i ≤ j → j < i + d → sameM (a.getD j mk0) m0 = true) → nowOk i now → st.1.length ≤ 60 →
    FSpec Tryz.prog 143 [.agg ((ruF r).map .d), .d (mrks a), .d (mrks b), .d (ints (rangeI i d)), .d (ints (toI (likeM b m0))), .agg [.d (prgs now.1), .d (.int .i64 now.2)], .ptr 1000006 0] [(1000006, rcell st)]
      (fun y r' => y = .tup [] ∧ r' = [(1000006, rcell (mtch r a b d i now st))]) := by
  intro d
  induction d with
  | zero =>
    intro i now st hd hs hn hst
    have hn1 := hn.1
    have h := z230 now st (by omega) (by omega)
    have hl := rangeI_len i 0
    refine spec_of hT (C := []) Tryz.func143 rfl Tryz.call143 rfl rfl rfl ?_
    conv => whnf
    repeat' (first
      | (refine CallX.exact (h) rfl rfl ?_; rotate_right; conv => whnf)
      | (refine CallX.exact (z231f now.1 (by omega)) rfl rfl ?_; rotate_right; conv => whnf)
      | (refine br_intro (fun hb => ?_) (fun hb => ?_) <;> (try simp only [decide_eq_true_eq, decide_eq_false_iff_not, Bool.not_eq_true', Bool.not_eq_false', Bool.and_eq_true, Bool.or_eq_true, beq_iff_eq, not_and, Int.not_le, Int.not_lt, Int.toNat_natCast, beq_eq_false_iff_ne, ne_eq, eq_self, not_true_eq_false, not_false_eq_true] at hb) <;> (conv => whnf))
      | (refine RegX.rule (id := 2) hT rfl [] [(0, []), (1, [0]), (2, [0]), (3, [0]), (4, [])] (by decide +kernel) ?_; conv => whnf)
      | (refine RegX.rule (id := 3) hT rfl [] [(0, []), (1, [0]), (2, [0]), (4, [0, 1, 2]), (5, [0, 1, 2]), (3, [0, 4, 5]), (6, [0]), (7, []), (8, [])] (by decide +kernel) ?_; conv => whnf)
      | (refine RegX.rule (id := 8) hT rfl [] [(0, []), (1, [0]), (2, [0, 1]), (3, [0]), (4, [0]), (5, [0, 1, 2, 3, 4]), (6, [0, 1, 2, 3, 4, 5]), (7, [0, 1, 2, 3, 4]), (8, [0, 1, 2, 3, 4]), (9, []), (10, []), (11, []), (12, []), (13, [11, 12]), (14, []), (15, []), (16, [])] (by decide +kernel) ?_; conv => whnf)
      | (refine RegX.rule (id := 9) hT rfl [] [(0, []), (1, [0]), (2, [0, 1]), (3, [0, 1, 2]), (4, [0, 1, 2]), (5, [0, 1, 2, 3, 4]), (6, [0, 1, 2, 3, 4, 5]), (7, [0, 1, 2, 3, 4, 5]), (9, [0, 1, 2, 3, 4, 5, 6, 7]), (10, [0, 1, 2, 3, 4, 5, 6, 7, 9]), (11, [0, 1, 2, 3, 4, 5, 6, 7]), (12, [0, 1, 2, 3, 4, 5, 6, 7]), (14, [0, 1, 2, 3, 4, 5, 6, 7, 9, 10, 11, 12]), (15, [0, 1, 2, 3, 4, 5, 6, 7, 9, 10, 11, 12]), (16, [0, 1, 2, 3, 4, 5, 6, 7, 9, 10, 11, 12, 14, 15]), (17, [0, 1, 2, 3, 4, 5, 6, 7, 9, 10, 11, 12, 14, 15, 16]), (18, [0, 1, 2, 3, 4, 5, 6, 7, 9, 10, 11, 12, 14, 15]), (19, [0, 1, 2, 3, 4, 5, 6, 7, 9, 10, 11, 12, 14, 15]), (20, [0, 1, 2, 3, 4, 5, 6, 7, 9, 10, 11, 12, 14, 15, 16, 17, 18, 19]), (21, [0, 1, 2, 3, 4, 5, 6, 7, 9, 10, 11, 12, 14, 15, 16, 17, 18, 19, 20]), (22, [0, 1, 2, 3, 4, 5, 6, 7, 9, 10, 11, 12, 14, 15, 16, 17, 18, 19]), (23, [0, 1, 2, 3, 4, 5, 6, 7, 9, 10, 11, 12, 14, 15, 16, 17, 18, 19]), (27, [0, 1, 2, 3, 4, 5, 6, 7, 9, 10, 11, 12, 14, 15, 16, 17, 18, 19, 20, 21, 22, 23]), (8, [0, 1, 2, 3, 4, 5, 9, 10, 11, 12, 14, 15, 16, 17, 18, 19, 20, 21, 22, 23, 27]), (13, [0, 1, 2, 3, 4, 5, 14, 15, 16, 17, 18, 19, 20, 21, 22, 23, 27]), (24, [0, 1, 2, 3, 4, 5, 14, 15, 27]), (25, [0, 1, 2, 3, 4, 5, 27]), (26, [0, 1, 2, 3, 4, 5, 27]), (28, [])] (by decide +kernel) ?_; conv => whnf)
      | (refine RegX.rule (id := 11) hT rfl [] [(0, []), (1, [0]), (2, [0, 1]), (3, [0, 1, 2]), (4, [0, 1, 2]), (5, [0, 1, 2, 3, 4]), (6, [0, 1, 2, 3, 4, 5]), (7, [0, 1, 2, 3, 4, 5, 6]), (8, [])] (by decide +kernel) ?_; conv => whnf)
      | omega
      | (refine And.intro ?_ ?_; ((try dsimp only); first | omega | (refine ⟨by omega, by omega, Int.le_trans (Int.mul_le_mul_of_nonneg_right (Int.ofNat_le.2 (Nat.le_of_ble_eq_true (rfl : Nat.ble _ 1024 = true))) (by omega)) (by omega), by omega⟩) | (refine Nat.le_trans (Nat.mul_le_mul_left _ (Nat.le_of_ble_eq_true (rfl : Nat.ble _ 1024 = true))) ?_; omega) | (unfold inI64; omega) | (constructor <;> omega) | (simp only [inI64, List.length_cons, List.length_append, List.length_nil, List.length_set] at *; omega) | decide | (unfold inI64; decide)); conv => whnf)
      | omega | decide | assumption)
    all_goals try (exact absurd hl (by omega))
    all_goals
      refine .ret _ ?_
      conv => whnf
      refine ⟨_, ⟨rfl, rfl⟩, ?_, trivial⟩
      rw [mtch]
      simp only [*]
      exact Res.le_refl _
  | succ d ih =>
    intro i now st hd hs hn hst
    have hn1 := hn.1
    have hai := ha.2 i (by omega)
    have hl := rangeI_len i (d + 1)
    have hlk : (likeM b m0).length ≤ b.length := by
      unfold likeM; exact Nat.le_trans (List.length_filter_le _ _) (by simp)
    have hti := toI_len (likeM b m0)
    rw [mtch_succL d i now st (hs i (Nat.le_refl _) (by omega))]
    refine spec_of hT (C := []) Tryz.func143 rfl Tryz.call143 rfl rfl rfl ?_
    conv => whnf
    repeat' (first
      | (refine br_intro (fun hb => ?_) (fun hb => ?_) <;> (try simp only [decide_eq_true_eq, decide_eq_false_iff_not, Bool.not_eq_true', Bool.not_eq_false', Bool.and_eq_true, Bool.or_eq_true, beq_iff_eq, not_and, Int.not_le, Int.not_lt, Int.toNat_natCast, beq_eq_false_iff_ne, ne_eq, eq_self, not_true_eq_false, not_false_eq_true] at hb) <;> (conv => whnf))
      | (refine RegX.rule (id := 2) hT rfl [] [(0, []), (1, [0]), (2, [0]), (3, [0]), (4, [])] (by decide +kernel) ?_; conv => whnf)
      | (refine RegX.rule (id := 3) hT rfl [] [(0, []), (1, [0]), (2, [0]), (4, [0, 1, 2]), (5, [0, 1, 2]), (3, [0, 4, 5]), (6, [0]), (7, []), (8, [])] (by decide +kernel) ?_; conv => whnf)
      | (refine RegX.rule (id := 8) hT rfl [] [(0, []), (1, [0]), (2, [0, 1]), (3, [0]), (4, [0]), (5, [0, 1, 2, 3, 4]), (6, [0, 1, 2, 3, 4, 5]), (7, [0, 1, 2, 3, 4]), (8, [0, 1, 2, 3, 4]), (9, []), (10, []), (11, []), (12, []), (13, [11, 12]), (14, []), (15, []), (16, [])] (by decide +kernel) ?_; conv => whnf)
      | (refine RegX.rule (id := 9) hT rfl [] [(0, []), (1, [0]), (2, [0, 1]), (3, [0, 1, 2]), (4, [0, 1, 2]), (5, [0, 1, 2, 3, 4]), (6, [0, 1, 2, 3, 4, 5]), (7, [0, 1, 2, 3, 4, 5]), (9, [0, 1, 2, 3, 4, 5, 6, 7]), (10, [0, 1, 2, 3, 4, 5, 6, 7, 9]), (11, [0, 1, 2, 3, 4, 5, 6, 7]), (12, [0, 1, 2, 3, 4, 5, 6, 7]), (14, [0, 1, 2, 3, 4, 5, 6, 7, 9, 10, 11, 12]), (15, [0, 1, 2, 3, 4, 5, 6, 7, 9, 10, 11, 12]), (16, [0, 1, 2, 3, 4, 5, 6, 7, 9, 10, 11, 12, 14, 15]), (17, [0, 1, 2, 3, 4, 5, 6, 7, 9, 10, 11, 12, 14, 15, 16]), (18, [0, 1, 2, 3, 4, 5, 6, 7, 9, 10, 11, 12, 14, 15]), (19, [0, 1, 2, 3, 4, 5, 6, 7, 9, 10, 11, 12, 14, 15]), (20, [0, 1, 2, 3, 4, 5, 6, 7, 9, 10, 11, 12, 14, 15, 16, 17, 18, 19]), (21, [0, 1, 2, 3, 4, 5, 6, 7, 9, 10, 11, 12, 14, 15, 16, 17, 18, 19, 20]), (22, [0, 1, 2, 3, 4, 5, 6, 7, 9, 10, 11, 12, 14, 15, 16, 17, 18, 19]), (23, [0, 1, 2, 3, 4, 5, 6, 7, 9, 10, 11, 12, 14, 15, 16, 17, 18, 19]), (27, [0, 1, 2, 3, 4, 5, 6, 7, 9, 10, 11, 12, 14, 15, 16, 17, 18, 19, 20, 21, 22, 23]), (8, [0, 1, 2, 3, 4, 5, 9, 10, 11, 12, 14, 15, 16, 17, 18, 19, 20, 21, 22, 23, 27]), (13, [0, 1, 2, 3, 4, 5, 14, 15, 16, 17, 18, 19, 20, 21, 22, 23, 27]), (24, [0, 1, 2, 3, 4, 5, 14, 15, 27]), (25, [0, 1, 2, 3, 4, 5, 27]), (26, [0, 1, 2, 3, 4, 5, 27]), (28, [])] (by decide +kernel) ?_; conv => whnf)
      | (refine RegX.rule (id := 11) hT rfl [] [(0, []), (1, [0]), (2, [0, 1]), (3, [0, 1, 2]), (4, [0, 1, 2]), (5, [0, 1, 2, 3, 4]), (6, [0, 1, 2, 3, 4, 5]), (7, [0, 1, 2, 3, 4, 5, 6]), (8, [])] (by decide +kernel) ?_; conv => whnf)
      | omega
      | (refine And.intro ?_ ?_; ((try dsimp only); first | omega | (refine ⟨by omega, by omega, Int.le_trans (Int.mul_le_mul_of_nonneg_right (Int.ofNat_le.2 (Nat.le_of_ble_eq_true (rfl : Nat.ble _ 1024 = true))) (by omega)) (by omega), by omega⟩) | (refine Nat.le_trans (Nat.mul_le_mul_left _ (Nat.le_of_ble_eq_true (rfl : Nat.ble _ 1024 = true))) ?_; omega) | (unfold inI64; omega) | (constructor <;> omega) | (simp only [inI64, List.length_cons, List.length_append, List.length_nil, List.length_set] at *; omega) | decide | (unfold inI64; decide)); conv => whnf)
      | omega | decide | assumption)
    refine LoopX.rule hT (C := []) (ι := Nat) (fun j => j ≤ (likeM b m0).length) (fun j => mkSt [(1, .d (mrks a)), (2, .d (mrks b)), (3, .d (ints (rangeI i (d + 1)))), (4, .d (ints (toI (likeM b m0)))), (6, .ptr 1000006 0), (7, .ptr 7 0), (12, .ptr 12 0), (14, .d (.int .i64 i)), (36, .d (ints (toI (likeM b m0)))), (37, .d (.int .i64 (toI (likeM b m0)).length)), (38, .d (.int .i64 j))]
      [(7, .cells 76 ((ruF r).map .d)), (12, rcell now), (1000006, rcell (((likeM b m0).take j).foldl (stepM r a b d i now) st))]) (fun j => (likeM b m0).length - j) 0 (by omega) (by refine Entails.mk' [(7, 7), (12, 12), (1000006, 1000006)] rfl rfl ?_ ?_ <;> repeat' (first | exact True.intro | exact SV.le_refl _ | exact Res.le_refl _ | exact SV.le_int (by omega) | exact SV.le_any _ | refine And.intro ?_ ?_)) ?_
    rintro j p1
    have e1 : (j : Int).toNat = j := Int.toNat_natCast j
    have e2 : (i : Int).toNat = i := Int.toNat_natCast i
    have hfl := foldM_len (r := r) (a := a) (b := b) (i := i) (now := now) (st := st) (n := 60) (d := d) (by omega) hst ((likeM b m0).take j)
    obtain ⟨q, hq⟩ : ∃ q, q = ((likeM b m0).take j).foldl (stepM r a b d i now) st := ⟨_, rfl⟩
    rw [← hq] at hfl ⊢
    by_cases hj : j < (likeM b m0).length
    · have hkb : (likeM b m0).getD j 0 < b.length := likeM_lt hj
      have hK : ((toI (likeM b m0)).getD j 0) = (((likeM b m0).getD j 0 : Nat) : Int) := toI_get hj
      have hKi : ((toI (likeM b m0)).getD j 0) = ((((toI (likeM b m0)).getD j 0).toNat : Nat) : Int) := by omega
      have hkn : ((toI (likeM b m0)).getD j 0).toNat < b.length := by omega
      have hK' : (toI (likeM b m0)).getD (j : Int).toNat 0 = ((toI (likeM b m0)).getD j 0) := by rw [e1]
      have hstep : ((likeM b m0).take (j + 1)).foldl (stepM r a b d i now) st = if okM r a b i now.1 ((toI (likeM b m0)).getD j 0).toNat then mtch r a b d (i + 1) (now.1 ++ [⟨i, ((toI (likeM b m0)).getD j 0)⟩], now.2 + distM (a.getD i mk0) (b.getD ((toI (likeM b m0)).getD j 0).toNat mk0)) q else q := by
        rw [foldl_take _ 0 _ _ hj, ← hq, show (likeM b m0).getD j 0 = ((toI (likeM b m0)).getD j 0).toNat by omega]
        unfold stepM
        rw [← hKi]
      have hbk := hb2.2 ((toI (likeM b m0)).getD j 0).toNat hkn
      have h151 := z151 r (a.getD i mk0) (b.getD ((toI (likeM b m0)).getD j 0).toNat mk0) hr hai hbk
      have h152 := z152 (a.getD i mk0) (b.getD ((toI (likeM b m0)).getD j 0).toNat mk0) hai hbk
      have hdb := distM_bd (a := a.getD i mk0) (b := b.getD ((toI (likeM b m0)).getD j 0).toNat mk0) (by unfold mBd at hai; omega) (by unfold mBd at hbk; omega)
      have h146 := z146i ((toI (likeM b m0)).getD j 0) 232 now.1 (by omega) (fun p => p.b == ((toI (likeM b m0)).getD j 0)) (fun x _ => z232 x _)
      obtain ⟨m, hm⟩ : ∃ m : MSt, m = (now.1 ++ [⟨i, ((toI (likeM b m0)).getD j 0)⟩], now.2 + distM (a.getD i mk0) (b.getD ((toI (likeM b m0)).getD j 0).toNat mk0)) := ⟨_, rfl⟩
      have hm1 : nowOk (i + 1) m := by rw [hm, hKi]; exact nowOk_snoc hn hdb.1 hdb.2
      have hn2 := hn.2
      have h143 := ih (i + 1) m q (by omega) (fun j h1 h2 => hs j (by omega) (by omega)) hm1 hfl
      rw [← hm] at hstep
      have hu : usedM now.1 ((toI (likeM b m0)).getD j 0).toNat = now.1.any fun p => p.b == ((toI (likeM b m0)).getD j 0) := by unfold usedM; rw [← hKi]
      have hok : canB r (a.getD i mk0) (b.getD ((toI (likeM b m0)).getD j 0).toNat mk0) = true → (now.1.any fun p => p.b == ((toI (likeM b m0)).getD j 0)) = false → okM r a b i now.1 ((toI (likeM b m0)).getD j 0).toNat = true := fun q1 q2 => by
        unfold okM; rw [hu, q1, q2]; rfl
      have hno : canB r (a.getD i mk0) (b.getD ((toI (likeM b m0)).getD j 0).toNat mk0) = false ∨ (now.1.any fun p => p.b == ((toI (likeM b m0)).getD j 0)) = true → ¬ okM r a b i now.1 ((toI (likeM b m0)).getD j 0).toNat = true := fun q => by
        unfold okM; rw [hu]; rcases q with q | q <;> rw [q] <;> simp
      conv => whnf
      repeat' (first
        | (refine CallX.exact (h151) rfl rfl ?_; rotate_right; conv => whnf)
        | (refine CallX.of h146 [(1000001, 16)] rfl ⟨SV.le_refl _, SV.le_refl _, trivial⟩ ⟨Res.le_refl _, trivial⟩ rfl rfl ?_; rintro x rout ⟨rfl, rfl⟩; refine ⟨rfl, ?_⟩; conv => whnf)
        | (refine CallX.exact (h152) rfl rfl ?_; rotate_right; conv => whnf)
        | (refine CallX.of (z231r now.1 (by omega)) [(7, 67)] rfl ⟨SV.le_refl _, trivial⟩ trivial rfl rfl ?_; rintro x rout (⟨rfl, hl0, rfl⟩ | ⟨rfl, rfl⟩) <;> (refine ⟨rfl, ?_⟩; conv => whnf); conv => whnf)
        | (refine CallX.freeze _ _ _ _ 72 85 2 _ _ rfl rfl ?_; refine CallX.of h143 [(1000006, 1000006)] rfl ⟨SV.le_refl _, SV.le_refl _, SV.le_refl _, (show SV.le _ (.d (ints ((rangeI i (d + 1)).drop 1))) from SV.le_drop (by rw [List.length_drop]; omega)), SV.le_refl _, SV.le_agg ⟨by rw [hm]; first | exact SV.le_snocF (l := now.1) (x := ⟨i, ((toI (likeM b m0)).getD j 0)⟩) rfl | (rw [hl0]; exact SV.le_lit rfl rfl), SV.le_int (by rw [hm]), trivial⟩, SV.le_refl _, trivial⟩ ⟨Res.le_refl _, trivial⟩ rfl rfl ?_; rintro x rout ⟨rfl, rfl⟩; refine ⟨rfl, ?_⟩; conv => whnf)
        | (refine br_intro (fun hb => ?_) (fun hb => ?_) <;> (try simp only [decide_eq_true_eq, decide_eq_false_iff_not, Bool.not_eq_true', Bool.not_eq_false', Bool.and_eq_true, Bool.or_eq_true, beq_iff_eq, not_and, Int.not_le, Int.not_lt, Int.toNat_natCast, beq_eq_false_iff_ne, ne_eq, eq_self, not_true_eq_false, not_false_eq_true] at hb) <;> (conv => whnf))
        | (refine RegX.rule (id := 2) hT rfl [] [(0, []), (1, [0]), (2, [0]), (3, [0]), (4, [])] (by decide +kernel) ?_; conv => whnf)
        | (refine RegX.rule (id := 3) hT rfl [] [(0, []), (1, [0]), (2, [0]), (4, [0, 1, 2]), (5, [0, 1, 2]), (3, [0, 4, 5]), (6, [0]), (7, []), (8, [])] (by decide +kernel) ?_; conv => whnf)
        | (refine RegX.rule (id := 8) hT rfl [] [(0, []), (1, [0]), (2, [0, 1]), (3, [0]), (4, [0]), (5, [0, 1, 2, 3, 4]), (6, [0, 1, 2, 3, 4, 5]), (7, [0, 1, 2, 3, 4]), (8, [0, 1, 2, 3, 4]), (9, []), (10, []), (11, []), (12, []), (13, [11, 12]), (14, []), (15, []), (16, [])] (by decide +kernel) ?_; conv => whnf)
        | (refine RegX.rule (id := 9) hT rfl [] [(0, []), (1, [0]), (2, [0, 1]), (3, [0, 1, 2]), (4, [0, 1, 2]), (5, [0, 1, 2, 3, 4]), (6, [0, 1, 2, 3, 4, 5]), (7, [0, 1, 2, 3, 4, 5]), (9, [0, 1, 2, 3, 4, 5, 6, 7]), (10, [0, 1, 2, 3, 4, 5, 6, 7, 9]), (11, [0, 1, 2, 3, 4, 5, 6, 7]), (12, [0, 1, 2, 3, 4, 5, 6, 7]), (14, [0, 1, 2, 3, 4, 5, 6, 7, 9, 10, 11, 12]), (15, [0, 1, 2, 3, 4, 5, 6, 7, 9, 10, 11, 12]), (16, [0, 1, 2, 3, 4, 5, 6, 7, 9, 10, 11, 12, 14, 15]), (17, [0, 1, 2, 3, 4, 5, 6, 7, 9, 10, 11, 12, 14, 15, 16]), (18, [0, 1, 2, 3, 4, 5, 6, 7, 9, 10, 11, 12, 14, 15]), (19, [0, 1, 2, 3, 4, 5, 6, 7, 9, 10, 11, 12, 14, 15]), (20, [0, 1, 2, 3, 4, 5, 6, 7, 9, 10, 11, 12, 14, 15, 16, 17, 18, 19]), (21, [0, 1, 2, 3, 4, 5, 6, 7, 9, 10, 11, 12, 14, 15, 16, 17, 18, 19, 20]), (22, [0, 1, 2, 3, 4, 5, 6, 7, 9, 10, 11, 12, 14, 15, 16, 17, 18, 19]), (23, [0, 1, 2, 3, 4, 5, 6, 7, 9, 10, 11, 12, 14, 15, 16, 17, 18, 19]), (27, [0, 1, 2, 3, 4, 5, 6, 7, 9, 10, 11, 12, 14, 15, 16, 17, 18, 19, 20, 21, 22, 23]), (8, [0, 1, 2, 3, 4, 5, 9, 10, 11, 12, 14, 15, 16, 17, 18, 19, 20, 21, 22, 23, 27]), (13, [0, 1, 2, 3, 4, 5, 14, 15, 16, 17, 18, 19, 20, 21, 22, 23, 27]), (24, [0, 1, 2, 3, 4, 5, 14, 15, 27]), (25, [0, 1, 2, 3, 4, 5, 27]), (26, [0, 1, 2, 3, 4, 5, 27]), (28, [])] (by decide +kernel) ?_; conv => whnf)
        | (refine RegX.rule (id := 11) hT rfl [] [(0, []), (1, [0]), (2, [0, 1]), (3, [0, 1, 2]), (4, [0, 1, 2]), (5, [0, 1, 2, 3, 4]), (6, [0, 1, 2, 3, 4, 5]), (7, [0, 1, 2, 3, 4, 5, 6]), (8, [])] (by decide +kernel) ?_; conv => whnf)
        | omega
        | (refine And.intro ?_ ?_; ((try dsimp only); first | omega | (refine ⟨by omega, by omega, Int.le_trans (Int.mul_le_mul_of_nonneg_right (Int.ofNat_le.2 (Nat.le_of_ble_eq_true (rfl : Nat.ble _ 1024 = true))) (by omega)) (by omega), by omega⟩) | (refine Nat.le_trans (Nat.mul_le_mul_left _ (Nat.le_of_ble_eq_true (rfl : Nat.ble _ 1024 = true))) ?_; omega) | (unfold inI64; omega) | (constructor <;> omega) | (simp only [inI64, List.length_cons, List.length_append, List.length_nil, List.length_set] at *; omega) | decide | (unfold inI64; decide)); conv => whnf)
        | omega | decide | assumption)
      all_goals
        refine ⟨j + 1, by omega, by omega, ?_⟩
        rw [hstep]
        first
          | (rw [if_pos (hok (by assumption) (by assumption))]; exact (by refine Entails.mk' [(7, 7), (12, 12), (1000006, 1000006)] rfl rfl ?_ ?_ <;> repeat' (first | exact True.intro | exact SV.le_refl _ | exact Res.le_refl _ | exact SV.le_int (by omega) | exact SV.le_any _ | refine And.intro ?_ ?_)))
          | (rw [if_neg (hno (.inl (by assumption)))]; exact (by refine Entails.mk' [(7, 7), (12, 12), (1000006, 1000006)] rfl rfl ?_ ?_ <;> repeat' (first | exact True.intro | exact SV.le_refl _ | exact Res.le_refl _ | exact SV.le_int (by omega) | exact SV.le_any _ | refine And.intro ?_ ?_)))
          | (rw [if_neg (hno (.inr (by assumption)))]; exact (by refine Entails.mk' [(7, 7), (12, 12), (1000006, 1000006)] rfl rfl ?_ ?_ <;> repeat' (first | exact True.intro | exact SV.le_refl _ | exact Res.le_refl _ | exact SV.le_int (by omega) | exact SV.le_any _ | refine And.intro ?_ ?_)))
    · obtain rfl : j = (likeM b m0).length := by omega
      rw [List.take_length] at hq
      have h143 := ih (i + 1) now q (by omega) (fun j h1 h2 => hs j (by omega) (by omega)) (nowOk_up hn) hfl
      conv => whnf
      repeat' (first
        | (refine CallX.of h143 [(1000006, 1000006)] rfl ⟨SV.le_refl _, SV.le_refl _, SV.le_refl _, (show SV.le _ (.d (ints ((rangeI i (d + 1)).drop 1))) from SV.le_drop (by rw [List.length_drop]; omega)), SV.le_refl _, SV.le_refl _, SV.le_refl _, trivial⟩ ⟨Res.le_refl _, trivial⟩ rfl rfl ?_; rintro x rout ⟨rfl, rfl⟩; refine ⟨rfl, ?_⟩; conv => whnf)
        | (refine br_intro (fun hb => ?_) (fun hb => ?_) <;> (try simp only [decide_eq_true_eq, decide_eq_false_iff_not, Bool.not_eq_true', Bool.not_eq_false', Bool.and_eq_true, Bool.or_eq_true, beq_iff_eq, not_and, Int.not_le, Int.not_lt, Int.toNat_natCast, beq_eq_false_iff_ne, ne_eq, eq_self, not_true_eq_false, not_false_eq_true] at hb) <;> (conv => whnf))
        | (refine RegX.rule (id := 2) hT rfl [] [(0, []), (1, [0]), (2, [0]), (3, [0]), (4, [])] (by decide +kernel) ?_; conv => whnf)
        | (refine RegX.rule (id := 3) hT rfl [] [(0, []), (1, [0]), (2, [0]), (4, [0, 1, 2]), (5, [0, 1, 2]), (3, [0, 4, 5]), (6, [0]), (7, []), (8, [])] (by decide +kernel) ?_; conv => whnf)
        | (refine RegX.rule (id := 8) hT rfl [] [(0, []), (1, [0]), (2, [0, 1]), (3, [0]), (4, [0]), (5, [0, 1, 2, 3, 4]), (6, [0, 1, 2, 3, 4, 5]), (7, [0, 1, 2, 3, 4]), (8, [0, 1, 2, 3, 4]), (9, []), (10, []), (11, []), (12, []), (13, [11, 12]), (14, []), (15, []), (16, [])] (by decide +kernel) ?_; conv => whnf)
        | (refine RegX.rule (id := 9) hT rfl [] [(0, []), (1, [0]), (2, [0, 1]), (3, [0, 1, 2]), (4, [0, 1, 2]), (5, [0, 1, 2, 3, 4]), (6, [0, 1, 2, 3, 4, 5]), (7, [0, 1, 2, 3, 4, 5]), (9, [0, 1, 2, 3, 4, 5, 6, 7]), (10, [0, 1, 2, 3, 4, 5, 6, 7, 9]), (11, [0, 1, 2, 3, 4, 5, 6, 7]), (12, [0, 1, 2, 3, 4, 5, 6, 7]), (14, [0, 1, 2, 3, 4, 5, 6, 7, 9, 10, 11, 12]), (15, [0, 1, 2, 3, 4, 5, 6, 7, 9, 10, 11, 12]), (16, [0, 1, 2, 3, 4, 5, 6, 7, 9, 10, 11, 12, 14, 15]), (17, [0, 1, 2, 3, 4, 5, 6, 7, 9, 10, 11, 12, 14, 15, 16]), (18, [0, 1, 2, 3, 4, 5, 6, 7, 9, 10, 11, 12, 14, 15]), (19, [0, 1, 2, 3, 4, 5, 6, 7, 9, 10, 11, 12, 14, 15]), (20, [0, 1, 2, 3, 4, 5, 6, 7, 9, 10, 11, 12, 14, 15, 16, 17, 18, 19]), (21, [0, 1, 2, 3, 4, 5, 6, 7, 9, 10, 11, 12, 14, 15, 16, 17, 18, 19, 20]), (22, [0, 1, 2, 3, 4, 5, 6, 7, 9, 10, 11, 12, 14, 15, 16, 17, 18, 19]), (23, [0, 1, 2, 3, 4, 5, 6, 7, 9, 10, 11, 12, 14, 15, 16, 17, 18, 19]), (27, [0, 1, 2, 3, 4, 5, 6, 7, 9, 10, 11, 12, 14, 15, 16, 17, 18, 19, 20, 21, 22, 23]), (8, [0, 1, 2, 3, 4, 5, 9, 10, 11, 12, 14, 15, 16, 17, 18, 19, 20, 21, 22, 23, 27]), (13, [0, 1, 2, 3, 4, 5, 14, 15, 16, 17, 18, 19, 20, 21, 22, 23, 27]), (24, [0, 1, 2, 3, 4, 5, 14, 15, 27]), (25, [0, 1, 2, 3, 4, 5, 27]), (26, [0, 1, 2, 3, 4, 5, 27]), (28, [])] (by decide +kernel) ?_; conv => whnf)
        | (refine RegX.rule (id := 11) hT rfl [] [(0, []), (1, [0]), (2, [0, 1]), (3, [0, 1, 2]), (4, [0, 1, 2]), (5, [0, 1, 2, 3, 4]), (6, [0, 1, 2, 3, 4, 5]), (7, [0, 1, 2, 3, 4, 5, 6]), (8, [])] (by decide +kernel) ?_; conv => whnf)
        | omega
        | (refine And.intro ?_ ?_; ((try dsimp only); first | omega | (refine ⟨by omega, by omega, Int.le_trans (Int.mul_le_mul_of_nonneg_right (Int.ofNat_le.2 (Nat.le_of_ble_eq_true (rfl : Nat.ble _ 1024 = true))) (by omega)) (by omega), by omega⟩) | (refine Nat.le_trans (Nat.mul_le_mul_left _ (Nat.le_of_ble_eq_true (rfl : Nat.ble _ 1024 = true))) ?_; omega) | (unfold inI64; omega) | (constructor <;> omega) | (simp only [inI64, List.length_cons, List.length_append, List.length_nil, List.length_set] at *; omega) | decide | (unfold inI64; decide)); conv => whnf)
        | omega | decide | assumption)
      refine .ret _ ?_
      conv => whnf
      rw [← hq]
      exact ⟨_, ⟨rfl, rfl⟩, Res.le_refl _, trivial⟩
end Go.Proofs.YtnkdlkgannnfhaaGreatDoor
set_option maxRecDepth 20000
namespace Go.Proofs.YtnkdlkgannnfhaaGreatDoor
open Go Go.Eng
-- slices.CompareFunc of pairings, of an own row
theorem z281o (g : FuncId) (l m : List Prg) (hl : l.length ≤ 2^40) (hm : m.length ≤ 2^40)
    (hg : ∀ p q, FSpec Tryz.prog g [.agg ((prF p).map .d), .agg ((prF q).map .d)] [] (fun x r => x = .d (.int .i64 (cmpPr p q)) ∧ r = [])) :
    FSpec Tryz.prog 281 [.buf 1000001, .d (prgs m), .fn g []] [(1000001, prB l)] (fun x r => x = .d (.int .i64 (cmpPL l m)) ∧ r = [(1000001, prB l)]) := by
  refine spec_of hT (C := []) Tryz.func281 rfl Tryz.call281 rfl rfl rfl ?_
  conv => whnf
  refine LoopX.rule hT (C := []) (ι := Nat) (fun i => i ≤ l.length ∧ i ≤ m.length ∧ cmpPL l m = cmpPL (l.drop i) (m.drop i)) (fun i => mkSt [(0, .buf 1000001), (1, .d (prgs m)), (2, .fn g []), (11, .buf 1000001), (12, .d (.int .i64 l.length)), (13, .d (.int .i64 i))] [(1000001, prB l)]) (fun i => l.length - i) 0 ⟨by omega, by omega, by simp⟩ (by refine Entails.mk' [(1000001, 1000001)] rfl rfl ?_ ?_ <;> repeat' (first | exact True.intro | exact SV.le_refl _ | exact Res.le_refl _ | exact SV.le_int (by omega) | exact SV.le_any _ | refine And.intro ?_ ?_)) ?_
  rintro i ⟨p1, p2, p3⟩
  have hd : i < l.length → l.drop i = l.getD i pr0 :: l.drop (i + 1) := fun hi => by rw [List.drop_eq_getElem_cons hi, List.getD_eq_getElem?_getD, List.getElem?_eq_getElem hi]; rfl
  have hd2 : i < m.length → m.drop i = m.getD i pr0 :: m.drop (i + 1) := fun hi => by rw [List.drop_eq_getElem_cons hi, List.getD_eq_getElem?_getD, List.getElem?_eq_getElem hi]; rfl
  have e1 : (i : Int).toNat = i := Int.toNat_natCast i
  conv => whnf
  repeat' (first
    | (refine CallX.exact (hg (l.getD (i : Int).toNat pr0) (m.getD (i : Int).toNat pr0)) rfl rfl ?_; rotate_right; conv => whnf)
    | (refine br_intro (fun hb => ?_) (fun hb => ?_) <;> (try simp only [decide_eq_true_eq, decide_eq_false_iff_not, Bool.not_eq_true', Bool.not_eq_false', Bool.and_eq_true, Bool.or_eq_true, beq_iff_eq, not_and, Int.not_le, Int.not_lt, Int.toNat_natCast, beq_eq_false_iff_ne, ne_eq, eq_self, not_true_eq_false, not_false_eq_true] at hb) <;> (conv => whnf))
    | omega
    | (refine And.intro ?_ ?_; ((try dsimp only); first | omega | (refine ⟨by omega, by omega, Int.le_trans (Int.mul_le_mul_of_nonneg_right (Int.ofNat_le.2 (Nat.le_of_ble_eq_true (rfl : Nat.ble _ 1024 = true))) (by omega)) (by omega), by omega⟩) | (refine Nat.le_trans (Nat.mul_le_mul_left _ (Nat.le_of_ble_eq_true (rfl : Nat.ble _ 1024 = true))) ?_; omega) | (unfold inI64; omega) | (constructor <;> omega) | (simp only [inI64, List.length_cons, List.length_append, List.length_nil, List.length_set] at *; omega) | decide | (unfold inI64; decide)); conv => whnf)
    | omega | decide | assumption)
  · refine .ret _ ?_
    conv => whnf
    refine ⟨_, ⟨?_, rfl⟩, Res.le_refl _, trivial⟩
    conv => lhs; whnf
    congr 2
    rw [p3, hd (by omega), List.drop_eq_nil_iff.2 (by omega : m.length ≤ i)]; rfl
  · refine .ret _ ?_
    conv => whnf
    refine ⟨_, ⟨?_, rfl⟩, Res.le_refl _, trivial⟩
    conv => lhs; whnf
    congr 2
    rw [p3, hd (by omega), hd2 (by omega), cmpPL, if_pos (by simpa using hb)]; simp only [e1]
  · refine ⟨i + 1, ⟨by omega, by omega, ?_⟩, by omega, (by refine Entails.mk' [(1000001, 1000001)] rfl rfl ?_ ?_ <;> repeat' (first | exact True.intro | exact SV.le_refl _ | exact Res.le_refl _ | exact SV.le_int (by omega) | exact SV.le_any _ | refine And.intro ?_ ?_))⟩
    rw [p3, hd (by omega), hd2 (by omega), cmpPL, if_neg (by simpa using hb)]
  · refine .ret _ ?_
    conv => whnf
    refine ⟨_, ⟨?_, rfl⟩, Res.le_refl _, trivial⟩
    conv => lhs; whnf
    congr 2
    have hm : i < m.length := by omega
    rw [p3, hd2 hm, List.drop_eq_nil_iff.2 (by omega : l.length ≤ i)]; rfl
  · refine .ret _ ?_
    conv => whnf
    refine ⟨_, ⟨?_, rfl⟩, Res.le_refl _, trivial⟩
    conv => lhs; whnf
    congr 2
    rw [p3, List.drop_eq_nil_iff.2 (by omega : m.length ≤ i), List.drop_eq_nil_iff.2 (by omega : l.length ≤ i)]; rfl
def usedL (n : Nat) (l : List Prg) : List Bool := (List.range n).map (usedM l)
theorem usedL_len (n : Nat) (l : List Prg) : (usedL n l).length = n := by simp [usedL]
theorem usedL_get {n k : Nat} (l : List Prg) (h : k < n) : (usedL n l).getD k false = usedM l k := by
  rw [List.getD_eq_getElem?_getD]; simp [usedL, h]
theorem usedM_snoc (l : List Prg) (i k j : Nat) : usedM (l ++ [⟨i, k⟩]) j = (usedM l j || decide (k = j)) := by
  unfold usedM
  rw [List.any_append]
  congr 1
  rw [Bool.eq_iff_iff]
  simp
  omega
theorem usedL_snoc {n i k : Nat} {l : List Prg} (h : k < n) : (usedL n l).set k true = usedL n (l ++ [⟨i, k⟩]) := by
  apply List.ext_getElem
  · simp [usedL]
  intro j h1 h2
  rw [List.getElem_set]
  have e : (usedL n (l ++ [⟨i, k⟩]))[j] = usedM (l ++ [⟨i, k⟩]) j := by simp [usedL]
  rw [e, usedM_snoc]
  split
  · rename_i q; simp [q]
  · rename_i q; simp [usedL, q]
theorem usedL_back {n i k : Nat} {l : List Prg} (h : k < n) (hu : usedM l k = false) : (usedL n (l ++ [⟨i, k⟩])).set k false = usedL n l := by
  apply List.ext_getElem
  · simp [usedL]
  intro j h1 h2
  rw [List.getElem_set]
  have e : (usedL n l)[j] = usedM l j := by simp [usedL]
  rw [e]
  split
  · rename_i q; rw [← q, hu]
  · rename_i q
    have e2 : (usedL n (l ++ [⟨i, k⟩]))[j]'(by simpa [usedL] using h1) = usedM (l ++ [⟨i, k⟩]) j := by simp [usedL]
    rw [e2, usedM_snoc]; simp [q]
abbrev mtX (r : Rul) (a b : List Mrk) (fr to : Nat) (now : SV) (st : MSt) (sum : Int) (f : Bool) : Res :=
  .cells 298 [.d (.int .i64 r.near), .d (.int .i64 r.slack), .d (.int .i64 r.join), .d (.int .i64 r.part), .d (mrks a), .d (mrks b), .d (.int .i64 fr), .d (.int .i64 to), .buf 1000001, now, .d (prgs st.1), .d (.int .i64 sum), .d (.int .i64 st.2), .d (.bool f)]
abbrev mtR (r : Rul) (a b : List Mrk) (fr to : Nat) (nm : Nat) (now st : MSt) (f : Bool) : List (Nat × Res) :=
  [(1000000, mtX r a b fr to (.buf nm) st now.2 f), (nm, prB now.1), (1000001, seqB 4 1 bF false (usedL b.length now.1))]
theorem cmp_beats (m o : MSt) : firstE [cmpI o.1.length m.1.length, cmpI m.2 o.2, cmpPL m.1 o.1] < 0 ↔ beatsM m o = true := by
  unfold beatsM
  simp only [firstE, cmpI]
  grind
def fOk (f : Bool) (st : MSt) : Prop := f = false → st = ([], 0)
theorem mtch_leaf {r : Rul} {a b : List Mrk} {i : Nat} {now st : MSt} {f : Bool} (hf : fOk f st) (hn : now.1 = [] → now.2 = 0) : mtch r a b 0 i now st = if f = false ∨ beatsM now st = true then now else st := by
  rw [mtch]
  by_cases q : beatsM now st = true
  · rw [if_pos q, if_pos (.inr q)]
  · rw [if_neg q]
    by_cases q2 : f = false
    · rw [if_pos (.inl q2)]
      have h0 := hf q2
      subst h0
      have h1 : now.1 = [] := by
        by_cases e : now.1.length = 0
        · exact List.eq_nil_of_length_eq_zero e
        · exfalso; apply q; unfold beatsM; rw [if_pos (by simpa using e)]; simp; omega
      have h2 := hn h1
      cases now
      simp only at h1 h2
      rw [h1, h2]
    · rw [if_neg (by intro h; rcases h with h | h; exact q2 h; exact q h)]

-- look, at the leaves
set_option maxHeartbeats 4000000 in
theorem z233z (r : Rul) (a b : List Mrk) (fr to : Nat) (now st : MSt) (f : Bool) (hto : to ≤ 60) (hf : fOk f st) (hn : now.1 = [] → now.2 = 0) (hl : now.1.length ≤ to) (hst : st.1.length ≤ 60) :
    FSpec Tryz.prog 233 [.ptr 1000000 0, .d (.int .i64 to)] (mtR r a b fr to 1000002 now st f) (fun y r' => y = .tup [] ∧ ∃ nm, (nm = 1000002 ∨ nm = 60) ∧ r' = mtR r a b fr to nm now (mtch r a b 0 to now st) true) := by
  have hlf := mtch_leaf (r := r) (a := a) (b := b) (i := to) hf hn
  have h281 := z281o 283 now.1 st.1 (by omega) (by omega) (fun p q => z283 p q)
  have h196 := s182 [cmpI st.1.length now.1.length, cmpI now.2 st.2, cmpPL now.1 st.1] (by simp)
  have hcb := cmp_beats now st
  cases f
  all_goals
    refine spec_of hT (C := []) Tryz.func233 rfl Tryz.call233 rfl rfl rfl ?_
    conv => whnf
    repeat' (first
      | (refine CallX.exact (s183 _ _) rfl rfl ?_; rotate_right; conv => whnf)
      | (refine CallX.of h281 [(1000001, 1000002)] rfl ⟨SV.le_refl _, SV.le_refl _, SV.le_refl _, trivial⟩ ⟨Res.le_refl _, trivial⟩ rfl rfl ?_; rintro x rout ⟨rfl, rfl⟩; refine ⟨rfl, ?_⟩; conv => whnf)
      | (refine CallX.pure h196 ⟨SV.le_lit (by rfl) (by rfl), trivial⟩ rfl ?_; conv => whnf)
      | (refine CallX.of (z231 now.1 (by omega)) [(1000001, 1000002)] rfl ⟨SV.le_refl _, trivial⟩ ⟨Res.le_refl _, trivial⟩ rfl rfl ?_; rintro x rout ⟨rfl, rfl⟩; refine ⟨rfl, ?_⟩; conv => whnf)
      | (refine br_intro (fun hb => ?_) (fun hb => ?_) <;> (try simp only [decide_eq_true_eq, decide_eq_false_iff_not, Bool.not_eq_true', Bool.not_eq_false', Bool.and_eq_true, Bool.or_eq_true, beq_iff_eq, not_and, Int.not_le, Int.not_lt, Int.toNat_natCast, beq_eq_false_iff_ne, ne_eq, eq_self, not_true_eq_false, not_false_eq_true] at hb) <;> (conv => whnf))
      | (refine RegX.rule (id := 0) hT rfl [] [(0, []), (1, []), (2, []), (3, []), (4, []), (5, []), (6, []), (7, []), (8, []), (9, []), (10, [5, 6, 7, 8, 9]), (11, [5, 6, 7, 8, 9]), (12, [5, 6, 7, 8, 9]), (13, [5, 6, 7, 8, 9]), (14, []), (15, [5, 6, 7, 8, 9, 10, 11, 12, 13, 14]), (16, []), (17, [5, 6, 7, 8, 9, 10, 11, 12, 13, 14, 15, 16]), (18, [5, 6, 7, 8, 9, 10, 11, 12, 13, 14, 15, 16]), (19, [5, 6, 7, 8, 9, 10, 11, 12, 13, 14, 15, 16]), (20, [5, 6, 7, 8, 9, 10, 11, 12, 13, 14, 15, 16]), (21, [5, 6, 7, 8, 9, 10, 11, 12, 13, 14, 15, 16]), (22, []), (23, [])] (by decide +kernel) ?_; conv => whnf)
      | (refine RegX.rule (id := 2) hT rfl [] [(0, []), (1, []), (2, []), (3, []), (4, []), (5, [0, 1, 2, 3, 4]), (6, [0, 1, 2, 3, 4]), (7, [0, 1, 2, 3, 4]), (8, [0, 1, 2, 3, 4]), (9, [0, 1, 2, 3, 4]), (11, [0, 1, 2, 3, 4, 5, 6, 7, 8, 9]), (12, [0, 1, 2, 3, 4, 5, 6, 7, 8, 9]), (13, [0, 1, 2, 3, 4, 5, 6, 7, 8, 9]), (14, [0, 1, 2, 3, 4, 5, 6, 7, 8, 9]), (15, [0, 1, 2, 3, 4, 5, 6, 7, 8, 9, 11, 12, 13, 14]), (16, [0, 1, 2, 3, 4, 5, 6, 7, 8, 9, 11, 12, 13, 14]), (17, [0, 1, 2, 3, 4, 5, 6, 7, 8, 9, 11, 12, 13, 14]), (18, [0, 1, 2, 3, 4, 5, 6, 7, 8, 9, 11, 12, 13, 14]), (20, [0, 1, 2, 3, 4, 5, 6, 7, 8, 9, 11, 12, 13, 14, 15, 16, 17, 18]), (21, [0, 1, 2, 3, 4, 5, 6, 7, 8, 9, 11, 12, 13, 14, 15, 16, 17, 18]), (22, [0, 1, 2, 3, 4, 5, 6, 7, 8, 9, 11, 12, 13, 14, 15, 16, 17, 18]), (23, [0, 1, 2, 3, 4, 5, 6, 7, 8, 9, 11, 12, 13, 14, 15, 16, 17, 18]), (24, [0, 1, 2, 3, 4, 5, 6, 7, 8, 9, 11, 12, 13, 14, 15, 16, 17, 18, 20, 21, 22, 23]), (25, [0, 1, 2, 3, 4, 5, 6, 7, 8, 9, 11, 12, 13, 14, 15, 16, 17, 18, 20, 21, 22, 23]), (26, [0, 1, 2, 3, 4, 5, 6, 7, 8, 9, 11, 12, 13, 14, 15, 16, 17, 18, 20, 21, 22, 23]), (27, [0, 1, 2, 3, 4, 5, 6, 7, 8, 9, 11, 12, 13, 14, 15, 16, 17, 18, 20, 21, 22, 23]), (10, [11, 12, 13, 14, 15, 16, 17, 18, 20, 21, 22, 23, 24, 25, 26, 27]), (19, [20, 21, 22, 23, 24, 25, 26, 27]), (28, []), (29, []), (30, []), (31, [])] (by decide +kernel) ?_; conv => whnf)
      | (refine RegX.rule (id := 4) hT rfl [] [(0, []), (1, [0]), (2, [0, 1]), (3, [0, 1, 2]), (4, [0, 1, 2]), (5, [0, 1, 2]), (6, [0, 1, 2]), (8, [0, 1, 2, 3, 4, 5, 6]), (9, [0, 1, 2, 3, 4, 5, 6]), (10, [0, 1, 2, 3, 4, 5, 6]), (11, [0, 1, 2, 3, 4, 5, 6]), (7, [0, 1, 2, 8, 9, 10, 11]), (12, [1, 2]), (13, [1, 2]), (14, [1, 2]), (15, [2]), (16, [2]), (17, [2]), (18, []), (19, []), (20, [])] (by decide +kernel) ?_; conv => whnf)
      | (refine RegX.rule (id := 8) hT rfl [] [(0, []), (1, []), (2, []), (3, []), (4, [0, 1, 2, 3]), (5, []), (6, []), (7, []), (8, []), (9, []), (10, []), (11, []), (12, [8, 9, 10, 11]), (13, [8, 9, 10, 11]), (14, [8, 9, 10, 11]), (15, [8, 9, 10, 11]), (16, [8, 9, 10, 11, 12, 13, 14, 15]), (17, [8, 9, 10, 11]), (18, [8, 9, 10, 11]), (19, [8, 9, 10, 11, 12, 13, 14, 15, 16, 17, 18]), (20, []), (21, []), (22, [])] (by decide +kernel) ?_; conv => whnf)
      | (refine RegX.rule (id := 9) hT rfl [] [(0, []), (1, []), (2, []), (3, []), (4, [0, 1, 2, 3]), (5, []), (6, []), (7, [0, 1, 2, 3, 4, 5, 6]), (8, []), (9, [])] (by decide +kernel) ?_; conv => whnf)
      | (refine RegX.rule (id := 10) hT rfl [] [(0, []), (1, []), (2, []), (3, []), (4, [0, 1, 2, 3]), (5, [0, 1, 2, 3, 4]), (6, [0, 1, 2, 3, 4, 5]), (7, [0, 1, 2, 3, 4, 5, 6]), (8, [0, 1, 2, 3, 4, 5, 6]), (9, [0, 1, 2, 3, 4, 5, 6]), (10, [0, 1, 2, 3, 4, 5, 6]), (11, [0, 1, 2, 3, 4, 5, 6, 7, 8, 9, 10]), (12, [0, 1, 2, 3, 4, 5, 6]), (13, [0, 1, 2, 3, 4, 5, 6, 7, 8, 9, 10, 11, 12]), (14, [0, 1, 2, 3, 4, 5, 6, 7, 8, 9, 10, 11, 12]), (15, [0, 1, 2, 3, 4, 5, 6, 7, 8, 9, 10, 11, 12]), (16, [0, 1, 2, 3, 4, 5, 6, 7, 8, 9, 10, 11, 12]), (17, [0, 1, 2, 3, 4, 5, 6, 7, 8, 9, 10, 11, 12, 13, 14, 15, 16]), (18, [0, 1, 2, 3, 4, 5, 6, 7, 8, 9, 10, 11, 12, 13, 14, 15, 16, 17]), (19, [0, 1, 2, 3, 4, 5, 6, 7, 8, 9, 10, 11, 12, 13, 14, 15, 16]), (20, [0, 1, 2, 3, 4, 5, 6, 7, 8, 9, 10, 11, 12, 13, 14, 15, 16]), (21, [0, 1, 2, 3, 4, 5, 6, 7, 8, 9, 10, 11, 12]), (22, [5, 6, 11, 12]), (23, [5, 6, 11, 12]), (24, [6]), (25, [6]), (26, [6]), (27, []), (28, []), (29, [])] (by decide +kernel) ?_; conv => whnf)
      | (refine RegX.rule (id := 12) hT rfl [] [(0, []), (1, []), (2, []), (3, []), (4, [0, 1, 2, 3]), (5, [0, 1, 2, 3, 4]), (6, [0, 1, 2, 3, 4, 5]), (7, [0, 1, 2, 3, 4, 5, 6]), (8, [0, 1, 2, 3, 4, 5, 6]), (9, [0, 1, 2, 3, 4, 5, 6]), (10, [0, 1, 2, 3, 4, 5, 6]), (11, [0, 1, 2, 3, 4, 5, 6, 7, 8, 9, 10]), (12, [0, 1, 2, 3, 4, 5, 6]), (13, [0, 1, 2, 3, 4, 5, 6, 7, 8, 9, 10, 11, 12]), (14, [0, 1, 2, 3, 4, 5, 6, 7, 8, 9, 10, 11, 12]), (15, [0, 1, 2, 3, 4, 5, 6, 7, 8, 9, 10, 11, 12]), (16, [0, 1, 2, 3, 4, 5, 6, 7, 8, 9, 10, 11, 12]), (17, [0, 1, 2, 3, 4, 5, 6, 7, 8, 9, 10, 11, 12, 13, 14, 15, 16]), (18, [0, 1, 2, 3, 4, 5, 6, 7, 8, 9, 10, 11, 12, 13, 14, 15, 16]), (19, [0, 1, 2, 3, 4, 5, 6, 7, 8, 9, 10, 11, 12, 13, 14, 15, 16]), (20, [0, 1, 2, 3, 4, 5, 6, 7, 8, 9, 10, 11, 12, 13, 14, 15, 16]), (21, [0, 1, 2, 3, 4, 5, 6, 7, 8, 9, 10, 11, 12, 13, 14, 15, 16]), (22, [0, 1, 2, 3, 4, 5, 6, 7, 8, 9, 10, 11, 12, 13, 14, 15, 16]), (23, [0, 1, 2, 3, 4, 5, 6, 7, 8, 9, 10, 11, 12]), (24, [5, 6, 11, 12, 21, 22, 23]), (25, [5, 6, 11, 12, 21, 22, 23]), (26, [6, 21, 22, 23]), (27, [6, 21, 22, 23]), (28, [6, 21, 22, 23]), (29, []), (30, []), (31, [])] (by decide +kernel) ?_; conv => whnf)
      | omega
      | (refine And.intro ?_ ?_; ((try dsimp only); first | omega | (refine ⟨by omega, by omega, Int.le_trans (Int.mul_le_mul_of_nonneg_right (Int.ofNat_le.2 (Nat.le_of_ble_eq_true (rfl : Nat.ble _ 1024 = true))) (by omega)) (by omega), by omega⟩) | (refine Nat.le_trans (Nat.mul_le_mul_left _ (Nat.le_of_ble_eq_true (rfl : Nat.ble _ 1024 = true))) ?_; omega) | (unfold inI64; omega) | (constructor <;> omega) | (simp only [inI64, List.length_cons, List.length_append, List.length_nil, List.length_set] at *; omega) | decide | (unfold inI64; decide)); conv => whnf)
      | omega | decide | assumption)
  all_goals
    refine .ret _ ?_
    (conv => whnf)
    first
      | (rw [show mtch r a b 0 to now st = st from mtch_prune 0 to now st (by omega)]
         exact ⟨_, ⟨rfl, 1000002, .inl rfl, rfl⟩, Res.le_refl _, Res.le_refl _, Res.le_refl _, trivial⟩)
      | (rw [hlf, if_pos (.inl rfl)]
         exact ⟨_, ⟨rfl, 1000002, .inl rfl, rfl⟩, Res.le_refl _, Res.le_refl _, Res.le_refl _, trivial⟩)
      | (rw [hlf, if_pos (.inr (hcb.1 (by assumption)))]
         exact ⟨_, ⟨rfl, 1000002, .inl rfl, rfl⟩, Res.le_refl _, Res.le_refl _, Res.le_refl _, trivial⟩)
      | (rw [hlf, if_neg (by intro h; rcases h with h | h; cases h; have := hcb.2 h; omega)]
         exact ⟨_, ⟨rfl, 1000002, .inl rfl, rfl⟩, Res.le_refl _, Res.le_refl _, Res.le_refl _, trivial⟩)
end Go.Proofs.YtnkdlkgannnfhaaGreatDoor
set_option maxRecDepth 20000
namespace Go.Proofs.YtnkdlkgannnfhaaGreatDoor
open Go Go.Eng
theorem foldM_ok {r : Rul} {a b : List Mrk} {d i : Nat} {now st : MSt} (k : Nat) : (List.range (k + 1)).foldl (stepM r a b d i now) st = stepM r a b d i now ((List.range k).foldl (stepM r a b d i now) st) k := foldl_range_succ _ _ _
-- look
set_option maxHeartbeats 16000000 in
theorem z233 (r : Rul) (a b : List Mrk) (fr to : Nat) (hr : rBd r) (ha : a.length ≤ 60 ∧ ∀ i, i < a.length → mBd (a.getD i mk0)) (hb2 : b.length ≤ 60 ∧ ∀ i, i < b.length → mBd (b.getD i mk0)) (hto : to ≤ a.length) :
    ∀ (d i : Nat) (now st : MSt) (f : Bool), i + d = to → nowOk i now → (now.1 = [] → now.2 = 0) → fOk f st → st.1.length ≤ 60 →
    FSpec Tryz.prog 233 [.ptr 1000000 0, .d (.int .i64 i)] (mtR r a b fr to 1000002 now st f) (fun y r' => y = .tup [] ∧ ∃ nm, (nm = 1000002 ∨ nm = 60) ∧ r' = mtR r a b fr to nm now (mtch r a b d i now st) true) := by
  intro d
  induction d with
  | zero =>
    intro i now st f hd hn hz hf hst
    obtain rfl : i = to := by omega
    exact z233z r a b fr i now st f (by omega) hf hz hn.1 hst
  | succ d ih =>
    intro i now st f hd hn hz hf hst
    have hn1 := hn.1
    have hn2 := hn.2
    have hai := ha.2 i (by omega)
    have hb60 := hb2.1
    have hul := usedL_len b.length now.1
    have main : ∀ f, fOk f st → (f = true → st.1.length ≤ now.1.length + (d + 1)) → FSpec Tryz.prog 233 [.ptr 1000000 0, .d (.int .i64 i)] (mtR r a b fr to 1000002 now st f) (fun y r' => y = .tup [] ∧ ∃ nm, (nm = 1000002 ∨ nm = 60) ∧ r' = mtR r a b fr to nm now (mtch r a b (d + 1) i now st) true) := by
      intro f hf hp
      rw [mtch_succ]
      cases f
      all_goals
        try have hp := hp rfl
        refine spec_of hT (C := []) Tryz.func233 rfl Tryz.call233 rfl rfl rfl ?_
        conv => whnf
        repeat' (first
          | (refine br_intro (fun hb => ?_) (fun hb => ?_) <;> (try simp only [decide_eq_true_eq, decide_eq_false_iff_not, Bool.not_eq_true', Bool.not_eq_false', Bool.and_eq_true, Bool.or_eq_true, beq_iff_eq, not_and, Int.not_le, Int.not_lt, Int.toNat_natCast, beq_eq_false_iff_ne, ne_eq, eq_self, not_true_eq_false, not_false_eq_true] at hb) <;> (conv => whnf))
          | (refine RegX.rule (id := 0) hT rfl [] [(0, []), (1, []), (2, []), (3, []), (4, []), (5, []), (6, []), (7, []), (8, []), (9, []), (10, [5, 6, 7, 8, 9]), (11, [5, 6, 7, 8, 9]), (12, [5, 6, 7, 8, 9]), (13, [5, 6, 7, 8, 9]), (14, []), (15, [5, 6, 7, 8, 9, 10, 11, 12, 13, 14]), (16, []), (17, [5, 6, 7, 8, 9, 10, 11, 12, 13, 14, 15, 16]), (18, [5, 6, 7, 8, 9, 10, 11, 12, 13, 14, 15, 16]), (19, [5, 6, 7, 8, 9, 10, 11, 12, 13, 14, 15, 16]), (20, [5, 6, 7, 8, 9, 10, 11, 12, 13, 14, 15, 16]), (21, [5, 6, 7, 8, 9, 10, 11, 12, 13, 14, 15, 16]), (22, []), (23, [])] (by decide +kernel) ?_; conv => whnf)
          | (refine RegX.rule (id := 2) hT rfl [] [(0, []), (1, []), (2, []), (3, []), (4, []), (5, [0, 1, 2, 3, 4]), (6, [0, 1, 2, 3, 4]), (7, [0, 1, 2, 3, 4]), (8, [0, 1, 2, 3, 4]), (9, [0, 1, 2, 3, 4]), (11, [0, 1, 2, 3, 4, 5, 6, 7, 8, 9]), (12, [0, 1, 2, 3, 4, 5, 6, 7, 8, 9]), (13, [0, 1, 2, 3, 4, 5, 6, 7, 8, 9]), (14, [0, 1, 2, 3, 4, 5, 6, 7, 8, 9]), (15, [0, 1, 2, 3, 4, 5, 6, 7, 8, 9, 11, 12, 13, 14]), (16, [0, 1, 2, 3, 4, 5, 6, 7, 8, 9, 11, 12, 13, 14]), (17, [0, 1, 2, 3, 4, 5, 6, 7, 8, 9, 11, 12, 13, 14]), (18, [0, 1, 2, 3, 4, 5, 6, 7, 8, 9, 11, 12, 13, 14]), (20, [0, 1, 2, 3, 4, 5, 6, 7, 8, 9, 11, 12, 13, 14, 15, 16, 17, 18]), (21, [0, 1, 2, 3, 4, 5, 6, 7, 8, 9, 11, 12, 13, 14, 15, 16, 17, 18]), (22, [0, 1, 2, 3, 4, 5, 6, 7, 8, 9, 11, 12, 13, 14, 15, 16, 17, 18]), (23, [0, 1, 2, 3, 4, 5, 6, 7, 8, 9, 11, 12, 13, 14, 15, 16, 17, 18]), (24, [0, 1, 2, 3, 4, 5, 6, 7, 8, 9, 11, 12, 13, 14, 15, 16, 17, 18, 20, 21, 22, 23]), (25, [0, 1, 2, 3, 4, 5, 6, 7, 8, 9, 11, 12, 13, 14, 15, 16, 17, 18, 20, 21, 22, 23]), (26, [0, 1, 2, 3, 4, 5, 6, 7, 8, 9, 11, 12, 13, 14, 15, 16, 17, 18, 20, 21, 22, 23]), (27, [0, 1, 2, 3, 4, 5, 6, 7, 8, 9, 11, 12, 13, 14, 15, 16, 17, 18, 20, 21, 22, 23]), (10, [11, 12, 13, 14, 15, 16, 17, 18, 20, 21, 22, 23, 24, 25, 26, 27]), (19, [20, 21, 22, 23, 24, 25, 26, 27]), (28, []), (29, []), (30, []), (31, [])] (by decide +kernel) ?_; conv => whnf)
          | (refine RegX.rule (id := 4) hT rfl [] [(0, []), (1, [0]), (2, [0, 1]), (3, [0, 1, 2]), (4, [0, 1, 2]), (5, [0, 1, 2]), (6, [0, 1, 2]), (8, [0, 1, 2, 3, 4, 5, 6]), (9, [0, 1, 2, 3, 4, 5, 6]), (10, [0, 1, 2, 3, 4, 5, 6]), (11, [0, 1, 2, 3, 4, 5, 6]), (7, [0, 1, 2, 8, 9, 10, 11]), (12, [1, 2]), (13, [1, 2]), (14, [1, 2]), (15, [2]), (16, [2]), (17, [2]), (18, []), (19, []), (20, [])] (by decide +kernel) ?_; conv => whnf)
          | (refine RegX.rule (id := 8) hT rfl [] [(0, []), (1, []), (2, []), (3, []), (4, [0, 1, 2, 3]), (5, []), (6, []), (7, []), (8, []), (9, []), (10, []), (11, []), (12, [8, 9, 10, 11]), (13, [8, 9, 10, 11]), (14, [8, 9, 10, 11]), (15, [8, 9, 10, 11]), (16, [8, 9, 10, 11, 12, 13, 14, 15]), (17, [8, 9, 10, 11]), (18, [8, 9, 10, 11]), (19, [8, 9, 10, 11, 12, 13, 14, 15, 16, 17, 18]), (20, []), (21, []), (22, [])] (by decide +kernel) ?_; conv => whnf)
          | (refine RegX.rule (id := 9) hT rfl [] [(0, []), (1, []), (2, []), (3, []), (4, [0, 1, 2, 3]), (5, []), (6, []), (7, [0, 1, 2, 3, 4, 5, 6]), (8, []), (9, [])] (by decide +kernel) ?_; conv => whnf)
          | (refine RegX.rule (id := 10) hT rfl [] [(0, []), (1, []), (2, []), (3, []), (4, [0, 1, 2, 3]), (5, [0, 1, 2, 3, 4]), (6, [0, 1, 2, 3, 4, 5]), (7, [0, 1, 2, 3, 4, 5, 6]), (8, [0, 1, 2, 3, 4, 5, 6]), (9, [0, 1, 2, 3, 4, 5, 6]), (10, [0, 1, 2, 3, 4, 5, 6]), (11, [0, 1, 2, 3, 4, 5, 6, 7, 8, 9, 10]), (12, [0, 1, 2, 3, 4, 5, 6]), (13, [0, 1, 2, 3, 4, 5, 6, 7, 8, 9, 10, 11, 12]), (14, [0, 1, 2, 3, 4, 5, 6, 7, 8, 9, 10, 11, 12]), (15, [0, 1, 2, 3, 4, 5, 6, 7, 8, 9, 10, 11, 12]), (16, [0, 1, 2, 3, 4, 5, 6, 7, 8, 9, 10, 11, 12]), (17, [0, 1, 2, 3, 4, 5, 6, 7, 8, 9, 10, 11, 12, 13, 14, 15, 16]), (18, [0, 1, 2, 3, 4, 5, 6, 7, 8, 9, 10, 11, 12, 13, 14, 15, 16, 17]), (19, [0, 1, 2, 3, 4, 5, 6, 7, 8, 9, 10, 11, 12, 13, 14, 15, 16]), (20, [0, 1, 2, 3, 4, 5, 6, 7, 8, 9, 10, 11, 12, 13, 14, 15, 16]), (21, [0, 1, 2, 3, 4, 5, 6, 7, 8, 9, 10, 11, 12]), (22, [5, 6, 11, 12]), (23, [5, 6, 11, 12]), (24, [6]), (25, [6]), (26, [6]), (27, []), (28, []), (29, [])] (by decide +kernel) ?_; conv => whnf)
          | (refine RegX.rule (id := 12) hT rfl [] [(0, []), (1, []), (2, []), (3, []), (4, [0, 1, 2, 3]), (5, [0, 1, 2, 3, 4]), (6, [0, 1, 2, 3, 4, 5]), (7, [0, 1, 2, 3, 4, 5, 6]), (8, [0, 1, 2, 3, 4, 5, 6]), (9, [0, 1, 2, 3, 4, 5, 6]), (10, [0, 1, 2, 3, 4, 5, 6]), (11, [0, 1, 2, 3, 4, 5, 6, 7, 8, 9, 10]), (12, [0, 1, 2, 3, 4, 5, 6]), (13, [0, 1, 2, 3, 4, 5, 6, 7, 8, 9, 10, 11, 12]), (14, [0, 1, 2, 3, 4, 5, 6, 7, 8, 9, 10, 11, 12]), (15, [0, 1, 2, 3, 4, 5, 6, 7, 8, 9, 10, 11, 12]), (16, [0, 1, 2, 3, 4, 5, 6, 7, 8, 9, 10, 11, 12]), (17, [0, 1, 2, 3, 4, 5, 6, 7, 8, 9, 10, 11, 12, 13, 14, 15, 16]), (18, [0, 1, 2, 3, 4, 5, 6, 7, 8, 9, 10, 11, 12, 13, 14, 15, 16]), (19, [0, 1, 2, 3, 4, 5, 6, 7, 8, 9, 10, 11, 12, 13, 14, 15, 16]), (20, [0, 1, 2, 3, 4, 5, 6, 7, 8, 9, 10, 11, 12, 13, 14, 15, 16]), (21, [0, 1, 2, 3, 4, 5, 6, 7, 8, 9, 10, 11, 12, 13, 14, 15, 16]), (22, [0, 1, 2, 3, 4, 5, 6, 7, 8, 9, 10, 11, 12, 13, 14, 15, 16]), (23, [0, 1, 2, 3, 4, 5, 6, 7, 8, 9, 10, 11, 12]), (24, [5, 6, 11, 12, 21, 22, 23]), (25, [5, 6, 11, 12, 21, 22, 23]), (26, [6, 21, 22, 23]), (27, [6, 21, 22, 23]), (28, [6, 21, 22, 23]), (29, []), (30, []), (31, [])] (by decide +kernel) ?_; conv => whnf)
          | omega
          | (refine And.intro ?_ ?_; ((try dsimp only); first | omega | (refine ⟨by omega, by omega, Int.le_trans (Int.mul_le_mul_of_nonneg_right (Int.ofNat_le.2 (Nat.le_of_ble_eq_true (rfl : Nat.ble _ 1024 = true))) (by omega)) (by omega), by omega⟩) | (refine Nat.le_trans (Nat.mul_le_mul_left _ (Nat.le_of_ble_eq_true (rfl : Nat.ble _ 1024 = true))) ?_; omega) | (unfold inI64; omega) | (constructor <;> omega) | (simp only [inI64, List.length_cons, List.length_append, List.length_nil, List.length_set] at *; omega) | decide | (unfold inI64; decide)); conv => whnf)
          | omega | decide | assumption)
        refine LoopX.rule hT (C := []) (ι := Bool × Bool × Nat) (fun (_, f', k) => k ≤ b.length ∧ fOk f' ((List.range k).foldl (stepM r a b d i now) st)) (fun (c, f', k) => mkSt [(0, .ptr 1000000 0), (1, .d (.int .i64 i)), (99, .d (mrks b)), (100, .d (.int .i64 b.length)), (101, .d (.int .i64 k))]
          (mtR r a b fr to (bif c then 60 else 1000002) now ((List.range k).foldl (stepM r a b d i now) st) f')) (fun (_, _, k) => b.length - k) (false, _, 0) ⟨by simp, by simpa using hf⟩ (by refine Entails.mk' [(1000000, 1000000), (1000002, 1000002), (1000001, 1000001)] rfl rfl ?_ ?_ <;> repeat' (first | exact True.intro | exact SV.le_refl _ | exact Res.le_refl _ | exact SV.le_int (by omega) | exact SV.le_any _ | refine And.intro ?_ ?_)) ?_
        rintro ⟨c, f', k⟩ ⟨p1, p2⟩
        have p1 : k ≤ b.length := p1
        have e1 : (k : Int).toNat = k := Int.toNat_natCast k
        have e2 : (i : Int).toNat = i := Int.toNat_natCast i
        have hfl := foldM_len (r := r) (a := a) (b := b) (i := i) (now := now) (st := st) (n := 60) (d := d) (by omega) hst (List.range k)
        have hstep := foldM_ok (r := r) (a := a) (b := b) (d := d) (i := i) (now := now) (st := st) k
        obtain ⟨q, hq⟩ : ∃ q, q = (List.range k).foldl (stepM r a b d i now) st := ⟨_, rfl⟩
        show wpx _ _ _ _ _ (mkSt _ (mtR r a b fr to _ now ((List.range k).foldl (stepM r a b d i now) st) f'))
        change fOk f' ((List.range k).foldl (stepM r a b d i now) st) at p2
        rw [← hq] at hfl hstep p2 ⊢
        by_cases hk : k < b.length
        · have hbk := hb2.2 k hk
          have h148 := z148 r (a.getD i mk0) (b.getD k mk0) hr hai hbk
          have h149 := z149 (a.getD i mk0) (b.getD k mk0) hai hbk
          have hdb := distM_bd (a := a.getD i mk0) (b := b.getD k mk0) (by unfold mBd at hai; omega) (by unfold mBd at hbk; omega)
          have hug := usedL_get now.1 hk
          obtain ⟨m, hm⟩ : ∃ m : MSt, m = (now.1 ++ [⟨i, k⟩], now.2 + distM (a.getD i mk0) (b.getD k mk0)) := ⟨_, rfl⟩
          have hm1 : nowOk (i + 1) m := by rw [hm]; exact nowOk_snoc hn hdb.1 hdb.2
          have hml : m.1.length = now.1.length + 1 := by rw [hm]; simp
          have hm2 : m.2 = now.2 + distM (a.getD i mk0) (b.getD k mk0) := by rw [hm]
          have hmz : m.1 = [] → m.2 = 0 := fun h => by rw [h] at hml; simp at hml
          have hum := usedL_len b.length m.1
          have ihm := ih (i + 1) m q f' (by omega) hm1 hmz p2 hfl
          have hsnoc : usedM now.1 k = false → Res.le (.buf 4 1 (usedL b.length now.1).length fun j => bif Nat.beq j k then setAtD (rowF bF false (usedL b.length now.1) j) 0 [.bool true] else rowF bF false (usedL b.length now.1) j) (seqB 4 1 bF false (usedL b.length m.1)) := fun _ => by
            rw [hm, ← usedL_snoc (i := i) hk]; exact Res.le_upd (fun _ => true) (fun _ => rfl)
          have hback : usedM now.1 k = false → Res.le (.buf 4 1 (usedL b.length m.1).length fun j => bif Nat.beq j k then setAtD (rowF bF false (usedL b.length m.1) j) 0 [.bool false] else rowF bF false (usedL b.length m.1) j) (seqB 4 1 bF false (usedL b.length now.1)) := fun hu => by
            have h := Res.le_upd (f := bF) (d := false) (l := usedL b.length m.1) (e := 4) (k := 1) (j := k) (off := 0) (ds := [.bool false]) (fun _ => false) (fun _ => rfl)
            have h2 := usedL_back (i := i) (l := now.1) hk hu
            rw [hm] at h ⊢
            rwa [h2] at h
          have hstep : (List.range (k + 1)).foldl (stepM r a b d i now) st = if okM r a b i now.1 k = true then mtch r a b d (i + 1) m q else q := by
            rw [hstep, hm]; rfl
          cases c
          all_goals
            conv => whnf
            repeat' (first
              | (refine CallX.exact (h148) rfl rfl ?_; rotate_right; conv => whnf)
              | (refine CallX.exact (h149) rfl rfl ?_; rotate_right; conv => whnf)
              | (refine CallX.of ihm [(1000000, 1000000), (1000002, 159), (1000001, 1000001), (60, 900)] rfl ⟨SV.le_refl _, SV.le_int (by omega), trivial⟩ ⟨by rw [hm]; exact Res.le_refl _, by rw [hm]; exact Res.le_snocF (l := now.1) (x := (⟨i, k⟩ : Prg)) rfl, hsnoc (by rw [← hug]; simpa using ‹_ = false›), trivial⟩ rfl rfl ?_; rintro x rout ⟨rfl, nm, (rfl | rfl), rfl⟩ <;> (refine ⟨rfl, ?_⟩; conv => whnf); conv => whnf)
              | (refine br_intro (fun hb => ?_) (fun hb => ?_) <;> (try simp only [decide_eq_true_eq, decide_eq_false_iff_not, Bool.not_eq_true', Bool.not_eq_false', Bool.and_eq_true, Bool.or_eq_true, beq_iff_eq, not_and, Int.not_le, Int.not_lt, Int.toNat_natCast, beq_eq_false_iff_ne, ne_eq, eq_self, not_true_eq_false, not_false_eq_true] at hb) <;> (conv => whnf))
              | (refine RegX.rule (id := 0) hT rfl [] [(0, []), (1, []), (2, []), (3, []), (4, []), (5, []), (6, []), (7, []), (8, []), (9, []), (10, [5, 6, 7, 8, 9]), (11, [5, 6, 7, 8, 9]), (12, [5, 6, 7, 8, 9]), (13, [5, 6, 7, 8, 9]), (14, []), (15, [5, 6, 7, 8, 9, 10, 11, 12, 13, 14]), (16, []), (17, [5, 6, 7, 8, 9, 10, 11, 12, 13, 14, 15, 16]), (18, [5, 6, 7, 8, 9, 10, 11, 12, 13, 14, 15, 16]), (19, [5, 6, 7, 8, 9, 10, 11, 12, 13, 14, 15, 16]), (20, [5, 6, 7, 8, 9, 10, 11, 12, 13, 14, 15, 16]), (21, [5, 6, 7, 8, 9, 10, 11, 12, 13, 14, 15, 16]), (22, []), (23, [])] (by decide +kernel) ?_; conv => whnf)
              | (refine RegX.rule (id := 2) hT rfl [] [(0, []), (1, []), (2, []), (3, []), (4, []), (5, [0, 1, 2, 3, 4]), (6, [0, 1, 2, 3, 4]), (7, [0, 1, 2, 3, 4]), (8, [0, 1, 2, 3, 4]), (9, [0, 1, 2, 3, 4]), (11, [0, 1, 2, 3, 4, 5, 6, 7, 8, 9]), (12, [0, 1, 2, 3, 4, 5, 6, 7, 8, 9]), (13, [0, 1, 2, 3, 4, 5, 6, 7, 8, 9]), (14, [0, 1, 2, 3, 4, 5, 6, 7, 8, 9]), (15, [0, 1, 2, 3, 4, 5, 6, 7, 8, 9, 11, 12, 13, 14]), (16, [0, 1, 2, 3, 4, 5, 6, 7, 8, 9, 11, 12, 13, 14]), (17, [0, 1, 2, 3, 4, 5, 6, 7, 8, 9, 11, 12, 13, 14]), (18, [0, 1, 2, 3, 4, 5, 6, 7, 8, 9, 11, 12, 13, 14]), (20, [0, 1, 2, 3, 4, 5, 6, 7, 8, 9, 11, 12, 13, 14, 15, 16, 17, 18]), (21, [0, 1, 2, 3, 4, 5, 6, 7, 8, 9, 11, 12, 13, 14, 15, 16, 17, 18]), (22, [0, 1, 2, 3, 4, 5, 6, 7, 8, 9, 11, 12, 13, 14, 15, 16, 17, 18]), (23, [0, 1, 2, 3, 4, 5, 6, 7, 8, 9, 11, 12, 13, 14, 15, 16, 17, 18]), (24, [0, 1, 2, 3, 4, 5, 6, 7, 8, 9, 11, 12, 13, 14, 15, 16, 17, 18, 20, 21, 22, 23]), (25, [0, 1, 2, 3, 4, 5, 6, 7, 8, 9, 11, 12, 13, 14, 15, 16, 17, 18, 20, 21, 22, 23]), (26, [0, 1, 2, 3, 4, 5, 6, 7, 8, 9, 11, 12, 13, 14, 15, 16, 17, 18, 20, 21, 22, 23]), (27, [0, 1, 2, 3, 4, 5, 6, 7, 8, 9, 11, 12, 13, 14, 15, 16, 17, 18, 20, 21, 22, 23]), (10, [11, 12, 13, 14, 15, 16, 17, 18, 20, 21, 22, 23, 24, 25, 26, 27]), (19, [20, 21, 22, 23, 24, 25, 26, 27]), (28, []), (29, []), (30, []), (31, [])] (by decide +kernel) ?_; conv => whnf)
              | (refine RegX.rule (id := 4) hT rfl [] [(0, []), (1, [0]), (2, [0, 1]), (3, [0, 1, 2]), (4, [0, 1, 2]), (5, [0, 1, 2]), (6, [0, 1, 2]), (8, [0, 1, 2, 3, 4, 5, 6]), (9, [0, 1, 2, 3, 4, 5, 6]), (10, [0, 1, 2, 3, 4, 5, 6]), (11, [0, 1, 2, 3, 4, 5, 6]), (7, [0, 1, 2, 8, 9, 10, 11]), (12, [1, 2]), (13, [1, 2]), (14, [1, 2]), (15, [2]), (16, [2]), (17, [2]), (18, []), (19, []), (20, [])] (by decide +kernel) ?_; conv => whnf)
              | (refine RegX.rule (id := 8) hT rfl [] [(0, []), (1, []), (2, []), (3, []), (4, [0, 1, 2, 3]), (5, []), (6, []), (7, []), (8, []), (9, []), (10, []), (11, []), (12, [8, 9, 10, 11]), (13, [8, 9, 10, 11]), (14, [8, 9, 10, 11]), (15, [8, 9, 10, 11]), (16, [8, 9, 10, 11, 12, 13, 14, 15]), (17, [8, 9, 10, 11]), (18, [8, 9, 10, 11]), (19, [8, 9, 10, 11, 12, 13, 14, 15, 16, 17, 18]), (20, []), (21, []), (22, [])] (by decide +kernel) ?_; conv => whnf)
              | (refine RegX.rule (id := 9) hT rfl [] [(0, []), (1, []), (2, []), (3, []), (4, [0, 1, 2, 3]), (5, []), (6, []), (7, [0, 1, 2, 3, 4, 5, 6]), (8, []), (9, [])] (by decide +kernel) ?_; conv => whnf)
              | (refine RegX.rule (id := 10) hT rfl [] [(0, []), (1, []), (2, []), (3, []), (4, [0, 1, 2, 3]), (5, [0, 1, 2, 3, 4]), (6, [0, 1, 2, 3, 4, 5]), (7, [0, 1, 2, 3, 4, 5, 6]), (8, [0, 1, 2, 3, 4, 5, 6]), (9, [0, 1, 2, 3, 4, 5, 6]), (10, [0, 1, 2, 3, 4, 5, 6]), (11, [0, 1, 2, 3, 4, 5, 6, 7, 8, 9, 10]), (12, [0, 1, 2, 3, 4, 5, 6]), (13, [0, 1, 2, 3, 4, 5, 6, 7, 8, 9, 10, 11, 12]), (14, [0, 1, 2, 3, 4, 5, 6, 7, 8, 9, 10, 11, 12]), (15, [0, 1, 2, 3, 4, 5, 6, 7, 8, 9, 10, 11, 12]), (16, [0, 1, 2, 3, 4, 5, 6, 7, 8, 9, 10, 11, 12]), (17, [0, 1, 2, 3, 4, 5, 6, 7, 8, 9, 10, 11, 12, 13, 14, 15, 16]), (18, [0, 1, 2, 3, 4, 5, 6, 7, 8, 9, 10, 11, 12, 13, 14, 15, 16, 17]), (19, [0, 1, 2, 3, 4, 5, 6, 7, 8, 9, 10, 11, 12, 13, 14, 15, 16]), (20, [0, 1, 2, 3, 4, 5, 6, 7, 8, 9, 10, 11, 12, 13, 14, 15, 16]), (21, [0, 1, 2, 3, 4, 5, 6, 7, 8, 9, 10, 11, 12]), (22, [5, 6, 11, 12]), (23, [5, 6, 11, 12]), (24, [6]), (25, [6]), (26, [6]), (27, []), (28, []), (29, [])] (by decide +kernel) ?_; conv => whnf)
              | (refine RegX.rule (id := 12) hT rfl [] [(0, []), (1, []), (2, []), (3, []), (4, [0, 1, 2, 3]), (5, [0, 1, 2, 3, 4]), (6, [0, 1, 2, 3, 4, 5]), (7, [0, 1, 2, 3, 4, 5, 6]), (8, [0, 1, 2, 3, 4, 5, 6]), (9, [0, 1, 2, 3, 4, 5, 6]), (10, [0, 1, 2, 3, 4, 5, 6]), (11, [0, 1, 2, 3, 4, 5, 6, 7, 8, 9, 10]), (12, [0, 1, 2, 3, 4, 5, 6]), (13, [0, 1, 2, 3, 4, 5, 6, 7, 8, 9, 10, 11, 12]), (14, [0, 1, 2, 3, 4, 5, 6, 7, 8, 9, 10, 11, 12]), (15, [0, 1, 2, 3, 4, 5, 6, 7, 8, 9, 10, 11, 12]), (16, [0, 1, 2, 3, 4, 5, 6, 7, 8, 9, 10, 11, 12]), (17, [0, 1, 2, 3, 4, 5, 6, 7, 8, 9, 10, 11, 12, 13, 14, 15, 16]), (18, [0, 1, 2, 3, 4, 5, 6, 7, 8, 9, 10, 11, 12, 13, 14, 15, 16]), (19, [0, 1, 2, 3, 4, 5, 6, 7, 8, 9, 10, 11, 12, 13, 14, 15, 16]), (20, [0, 1, 2, 3, 4, 5, 6, 7, 8, 9, 10, 11, 12, 13, 14, 15, 16]), (21, [0, 1, 2, 3, 4, 5, 6, 7, 8, 9, 10, 11, 12, 13, 14, 15, 16]), (22, [0, 1, 2, 3, 4, 5, 6, 7, 8, 9, 10, 11, 12, 13, 14, 15, 16]), (23, [0, 1, 2, 3, 4, 5, 6, 7, 8, 9, 10, 11, 12]), (24, [5, 6, 11, 12, 21, 22, 23]), (25, [5, 6, 11, 12, 21, 22, 23]), (26, [6, 21, 22, 23]), (27, [6, 21, 22, 23]), (28, [6, 21, 22, 23]), (29, []), (30, []), (31, [])] (by decide +kernel) ?_; conv => whnf)
              | omega
              | (refine And.intro ?_ ?_; ((try dsimp only); first | omega | (refine ⟨by omega, by omega, Int.le_trans (Int.mul_le_mul_of_nonneg_right (Int.ofNat_le.2 (Nat.le_of_ble_eq_true (rfl : Nat.ble _ 1024 = true))) (by omega)) (by omega), by omega⟩) | (refine Nat.le_trans (Nat.mul_le_mul_left _ (Nat.le_of_ble_eq_true (rfl : Nat.ble _ 1024 = true))) ?_; omega) | (unfold inI64; omega) | (constructor <;> omega) | (simp only [inI64, List.length_cons, List.length_append, List.length_nil, List.length_set] at *; omega) | decide | (unfold inI64; decide)); conv => whnf)
              | omega | decide | assumption)
          all_goals first
            | (have hno : ¬ okM r a b i now.1 k = true := by
                 unfold okM
                 clear hsnoc hback ihm hstep
                 grind
               first
                 | (refine ⟨(false, f', k + 1), ⟨by omega, by rw [hstep, if_neg hno]; exact p2⟩, (show b.length - (k + 1) < b.length - k by omega), ?_⟩
                    show Entails _ (mkSt _ (mtR r a b fr to _ now ((List.range (k + 1)).foldl (stepM r a b d i now) st) f'))
                    rw [hstep, if_neg hno]
                    exact Entails.mk' [(1000000, 1000000), (1000002, 1000002), (1000001, 1000001)] rfl rfl ⟨SV.le_refl _, SV.le_refl _, SV.le_refl _, SV.le_refl _, SV.le_refl _, trivial⟩ ⟨Res.le_refl _, Res.le_refl _, Res.le_refl _, trivial⟩)
                 | (refine ⟨(true, f', k + 1), ⟨by omega, by rw [hstep, if_neg hno]; exact p2⟩, (show b.length - (k + 1) < b.length - k by omega), ?_⟩
                    show Entails _ (mkSt _ (mtR r a b fr to _ now ((List.range (k + 1)).foldl (stepM r a b d i now) st) f'))
                    rw [hstep, if_neg hno]
                    exact Entails.mk' [(1000000, 1000000), (60, 60), (1000001, 1000001)] rfl rfl ⟨SV.le_refl _, SV.le_refl _, SV.le_refl _, SV.le_refl _, SV.le_refl _, trivial⟩ ⟨Res.le_refl _, Res.le_refl _, Res.le_refl _, trivial⟩))
            | (have hun : usedM now.1 k = false := by rw [← hug]; simpa using ‹_ = false›
               have hyes : okM r a b i now.1 k = true := by
                 unfold okM
                 clear hsnoc hback ihm hstep
                 grind
               refine ⟨(true, true, k + 1), ⟨by omega, fun h => by cases h⟩, (show b.length - (k + 1) < b.length - k by omega), ?_⟩
               show Entails _ (mkSt _ (mtR r a b fr to _ now ((List.range (k + 1)).foldl (stepM r a b d i now) st) true))
               rw [hstep, if_pos hyes]
               first
                 | (refine (Entails.cutCell 1000000 159 2000 85 2 _ _ 9 _ rfl rfl rfl rfl rfl rfl).trans ?_; exact Entails.mk' [(1000000, 1000000), (60, 2000), (1000001, 1000001)] rfl rfl ⟨SV.le_refl _, SV.le_refl _, SV.le_refl _, SV.le_refl _, SV.le_refl _, trivial⟩ ⟨Res.le_cellsL ⟨SV.le_refl _, SV.le_refl _, SV.le_refl _, SV.le_refl _, SV.le_refl _, SV.le_refl _, SV.le_refl _, SV.le_refl _, SV.le_refl _, SV.le_refl _, SV.le_refl _, SV.le_int (by omega), SV.le_refl _, SV.le_refl _, trivial⟩, Res.le_cutF (by omega) (fun i hi => by rw [hm, getD_app_lt hi]), hback hun, trivial⟩)
                 | (refine (Entails.cutCell 1000000 900 2000 85 2 _ _ 9 _ rfl rfl rfl rfl rfl rfl).trans ?_; exact Entails.mk' [(1000000, 1000000), (60, 2000), (1000001, 1000001)] rfl rfl ⟨SV.le_refl _, SV.le_refl _, SV.le_refl _, SV.le_refl _, SV.le_refl _, trivial⟩ ⟨Res.le_cellsL ⟨SV.le_refl _, SV.le_refl _, SV.le_refl _, SV.le_refl _, SV.le_refl _, SV.le_refl _, SV.le_refl _, SV.le_refl _, SV.le_refl _, SV.le_refl _, SV.le_refl _, SV.le_int (by omega), SV.le_refl _, SV.le_refl _, trivial⟩, Res.le_cutF (by omega) (fun i hi => by rw [hm, getD_app_lt hi]), hback hun, trivial⟩))
        · obtain rfl : k = b.length := by omega
          have ihe := ih (i + 1) now q f' (by omega) (nowOk_up hn) hz p2 hfl
          rw [← hq]
          cases c
          all_goals
            conv => whnf
            repeat' (first
              | (refine CallX.of ihe [(1000000, 1000000), (1000002, 1000002), (1000001, 1000001), (60, 900)] rfl ⟨SV.le_refl _, SV.le_int (by omega), trivial⟩ ⟨Res.le_refl _, Res.le_refl _, Res.le_refl _, trivial⟩ rfl rfl ?_; rintro x rout ⟨rfl, nm, (rfl | rfl), rfl⟩ <;> (refine ⟨rfl, ?_⟩; conv => whnf); conv => whnf)
              | (refine CallX.of ihe [(1000000, 1000000), (1000002, 60), (1000001, 1000001), (60, 900)] rfl ⟨SV.le_refl _, SV.le_int (by omega), trivial⟩ ⟨Res.le_refl _, Res.le_refl _, Res.le_refl _, trivial⟩ rfl rfl ?_; rintro x rout ⟨rfl, nm, (rfl | rfl), rfl⟩ <;> (refine ⟨rfl, ?_⟩; conv => whnf); conv => whnf)
              | (refine br_intro (fun hb => ?_) (fun hb => ?_) <;> (try simp only [decide_eq_true_eq, decide_eq_false_iff_not, Bool.not_eq_true', Bool.not_eq_false', Bool.and_eq_true, Bool.or_eq_true, beq_iff_eq, not_and, Int.not_le, Int.not_lt, Int.toNat_natCast, beq_eq_false_iff_ne, ne_eq, eq_self, not_true_eq_false, not_false_eq_true] at hb) <;> (conv => whnf))
              | (refine RegX.rule (id := 0) hT rfl [] [(0, []), (1, []), (2, []), (3, []), (4, []), (5, []), (6, []), (7, []), (8, []), (9, []), (10, [5, 6, 7, 8, 9]), (11, [5, 6, 7, 8, 9]), (12, [5, 6, 7, 8, 9]), (13, [5, 6, 7, 8, 9]), (14, []), (15, [5, 6, 7, 8, 9, 10, 11, 12, 13, 14]), (16, []), (17, [5, 6, 7, 8, 9, 10, 11, 12, 13, 14, 15, 16]), (18, [5, 6, 7, 8, 9, 10, 11, 12, 13, 14, 15, 16]), (19, [5, 6, 7, 8, 9, 10, 11, 12, 13, 14, 15, 16]), (20, [5, 6, 7, 8, 9, 10, 11, 12, 13, 14, 15, 16]), (21, [5, 6, 7, 8, 9, 10, 11, 12, 13, 14, 15, 16]), (22, []), (23, [])] (by decide +kernel) ?_; conv => whnf)
              | (refine RegX.rule (id := 2) hT rfl [] [(0, []), (1, []), (2, []), (3, []), (4, []), (5, [0, 1, 2, 3, 4]), (6, [0, 1, 2, 3, 4]), (7, [0, 1, 2, 3, 4]), (8, [0, 1, 2, 3, 4]), (9, [0, 1, 2, 3, 4]), (11, [0, 1, 2, 3, 4, 5, 6, 7, 8, 9]), (12, [0, 1, 2, 3, 4, 5, 6, 7, 8, 9]), (13, [0, 1, 2, 3, 4, 5, 6, 7, 8, 9]), (14, [0, 1, 2, 3, 4, 5, 6, 7, 8, 9]), (15, [0, 1, 2, 3, 4, 5, 6, 7, 8, 9, 11, 12, 13, 14]), (16, [0, 1, 2, 3, 4, 5, 6, 7, 8, 9, 11, 12, 13, 14]), (17, [0, 1, 2, 3, 4, 5, 6, 7, 8, 9, 11, 12, 13, 14]), (18, [0, 1, 2, 3, 4, 5, 6, 7, 8, 9, 11, 12, 13, 14]), (20, [0, 1, 2, 3, 4, 5, 6, 7, 8, 9, 11, 12, 13, 14, 15, 16, 17, 18]), (21, [0, 1, 2, 3, 4, 5, 6, 7, 8, 9, 11, 12, 13, 14, 15, 16, 17, 18]), (22, [0, 1, 2, 3, 4, 5, 6, 7, 8, 9, 11, 12, 13, 14, 15, 16, 17, 18]), (23, [0, 1, 2, 3, 4, 5, 6, 7, 8, 9, 11, 12, 13, 14, 15, 16, 17, 18]), (24, [0, 1, 2, 3, 4, 5, 6, 7, 8, 9, 11, 12, 13, 14, 15, 16, 17, 18, 20, 21, 22, 23]), (25, [0, 1, 2, 3, 4, 5, 6, 7, 8, 9, 11, 12, 13, 14, 15, 16, 17, 18, 20, 21, 22, 23]), (26, [0, 1, 2, 3, 4, 5, 6, 7, 8, 9, 11, 12, 13, 14, 15, 16, 17, 18, 20, 21, 22, 23]), (27, [0, 1, 2, 3, 4, 5, 6, 7, 8, 9, 11, 12, 13, 14, 15, 16, 17, 18, 20, 21, 22, 23]), (10, [11, 12, 13, 14, 15, 16, 17, 18, 20, 21, 22, 23, 24, 25, 26, 27]), (19, [20, 21, 22, 23, 24, 25, 26, 27]), (28, []), (29, []), (30, []), (31, [])] (by decide +kernel) ?_; conv => whnf)
              | (refine RegX.rule (id := 4) hT rfl [] [(0, []), (1, [0]), (2, [0, 1]), (3, [0, 1, 2]), (4, [0, 1, 2]), (5, [0, 1, 2]), (6, [0, 1, 2]), (8, [0, 1, 2, 3, 4, 5, 6]), (9, [0, 1, 2, 3, 4, 5, 6]), (10, [0, 1, 2, 3, 4, 5, 6]), (11, [0, 1, 2, 3, 4, 5, 6]), (7, [0, 1, 2, 8, 9, 10, 11]), (12, [1, 2]), (13, [1, 2]), (14, [1, 2]), (15, [2]), (16, [2]), (17, [2]), (18, []), (19, []), (20, [])] (by decide +kernel) ?_; conv => whnf)
              | (refine RegX.rule (id := 8) hT rfl [] [(0, []), (1, []), (2, []), (3, []), (4, [0, 1, 2, 3]), (5, []), (6, []), (7, []), (8, []), (9, []), (10, []), (11, []), (12, [8, 9, 10, 11]), (13, [8, 9, 10, 11]), (14, [8, 9, 10, 11]), (15, [8, 9, 10, 11]), (16, [8, 9, 10, 11, 12, 13, 14, 15]), (17, [8, 9, 10, 11]), (18, [8, 9, 10, 11]), (19, [8, 9, 10, 11, 12, 13, 14, 15, 16, 17, 18]), (20, []), (21, []), (22, [])] (by decide +kernel) ?_; conv => whnf)
              | (refine RegX.rule (id := 9) hT rfl [] [(0, []), (1, []), (2, []), (3, []), (4, [0, 1, 2, 3]), (5, []), (6, []), (7, [0, 1, 2, 3, 4, 5, 6]), (8, []), (9, [])] (by decide +kernel) ?_; conv => whnf)
              | (refine RegX.rule (id := 10) hT rfl [] [(0, []), (1, []), (2, []), (3, []), (4, [0, 1, 2, 3]), (5, [0, 1, 2, 3, 4]), (6, [0, 1, 2, 3, 4, 5]), (7, [0, 1, 2, 3, 4, 5, 6]), (8, [0, 1, 2, 3, 4, 5, 6]), (9, [0, 1, 2, 3, 4, 5, 6]), (10, [0, 1, 2, 3, 4, 5, 6]), (11, [0, 1, 2, 3, 4, 5, 6, 7, 8, 9, 10]), (12, [0, 1, 2, 3, 4, 5, 6]), (13, [0, 1, 2, 3, 4, 5, 6, 7, 8, 9, 10, 11, 12]), (14, [0, 1, 2, 3, 4, 5, 6, 7, 8, 9, 10, 11, 12]), (15, [0, 1, 2, 3, 4, 5, 6, 7, 8, 9, 10, 11, 12]), (16, [0, 1, 2, 3, 4, 5, 6, 7, 8, 9, 10, 11, 12]), (17, [0, 1, 2, 3, 4, 5, 6, 7, 8, 9, 10, 11, 12, 13, 14, 15, 16]), (18, [0, 1, 2, 3, 4, 5, 6, 7, 8, 9, 10, 11, 12, 13, 14, 15, 16, 17]), (19, [0, 1, 2, 3, 4, 5, 6, 7, 8, 9, 10, 11, 12, 13, 14, 15, 16]), (20, [0, 1, 2, 3, 4, 5, 6, 7, 8, 9, 10, 11, 12, 13, 14, 15, 16]), (21, [0, 1, 2, 3, 4, 5, 6, 7, 8, 9, 10, 11, 12]), (22, [5, 6, 11, 12]), (23, [5, 6, 11, 12]), (24, [6]), (25, [6]), (26, [6]), (27, []), (28, []), (29, [])] (by decide +kernel) ?_; conv => whnf)
              | (refine RegX.rule (id := 12) hT rfl [] [(0, []), (1, []), (2, []), (3, []), (4, [0, 1, 2, 3]), (5, [0, 1, 2, 3, 4]), (6, [0, 1, 2, 3, 4, 5]), (7, [0, 1, 2, 3, 4, 5, 6]), (8, [0, 1, 2, 3, 4, 5, 6]), (9, [0, 1, 2, 3, 4, 5, 6]), (10, [0, 1, 2, 3, 4, 5, 6]), (11, [0, 1, 2, 3, 4, 5, 6, 7, 8, 9, 10]), (12, [0, 1, 2, 3, 4, 5, 6]), (13, [0, 1, 2, 3, 4, 5, 6, 7, 8, 9, 10, 11, 12]), (14, [0, 1, 2, 3, 4, 5, 6, 7, 8, 9, 10, 11, 12]), (15, [0, 1, 2, 3, 4, 5, 6, 7, 8, 9, 10, 11, 12]), (16, [0, 1, 2, 3, 4, 5, 6, 7, 8, 9, 10, 11, 12]), (17, [0, 1, 2, 3, 4, 5, 6, 7, 8, 9, 10, 11, 12, 13, 14, 15, 16]), (18, [0, 1, 2, 3, 4, 5, 6, 7, 8, 9, 10, 11, 12, 13, 14, 15, 16]), (19, [0, 1, 2, 3, 4, 5, 6, 7, 8, 9, 10, 11, 12, 13, 14, 15, 16]), (20, [0, 1, 2, 3, 4, 5, 6, 7, 8, 9, 10, 11, 12, 13, 14, 15, 16]), (21, [0, 1, 2, 3, 4, 5, 6, 7, 8, 9, 10, 11, 12, 13, 14, 15, 16]), (22, [0, 1, 2, 3, 4, 5, 6, 7, 8, 9, 10, 11, 12, 13, 14, 15, 16]), (23, [0, 1, 2, 3, 4, 5, 6, 7, 8, 9, 10, 11, 12]), (24, [5, 6, 11, 12, 21, 22, 23]), (25, [5, 6, 11, 12, 21, 22, 23]), (26, [6, 21, 22, 23]), (27, [6, 21, 22, 23]), (28, [6, 21, 22, 23]), (29, []), (30, []), (31, [])] (by decide +kernel) ?_; conv => whnf)
              | omega
              | (refine And.intro ?_ ?_; ((try dsimp only); first | omega | (refine ⟨by omega, by omega, Int.le_trans (Int.mul_le_mul_of_nonneg_right (Int.ofNat_le.2 (Nat.le_of_ble_eq_true (rfl : Nat.ble _ 1024 = true))) (by omega)) (by omega), by omega⟩) | (refine Nat.le_trans (Nat.mul_le_mul_left _ (Nat.le_of_ble_eq_true (rfl : Nat.ble _ 1024 = true))) ?_; omega) | (unfold inI64; omega) | (constructor <;> omega) | (simp only [inI64, List.length_cons, List.length_append, List.length_nil, List.length_set] at *; omega) | decide | (unfold inI64; decide)); conv => whnf)
              | omega | decide | assumption)
          all_goals first
            | (refine .ent _ (mkSt [] (mtR r a b fr to 1000002 now (mtch r a b d (i + 1) now q) true)) (Entails.mk' [(1000000, 1000000), (1000002, 1000002), (1000001, 1000001)] rfl rfl trivial ⟨Res.le_refl _, Res.le_refl _, Res.le_refl _, trivial⟩) (.ret _ ?_)
               (conv => whnf)
               exact ⟨_, ⟨rfl, 1000002, .inl rfl, rfl⟩, Res.le_refl _, Res.le_refl _, Res.le_refl _, trivial⟩)
            | (refine .ent _ (mkSt [] (mtR r a b fr to 60 now (mtch r a b d (i + 1) now q) true)) (Entails.mk' [(1000000, 1000000), (60, 60), (1000001, 1000001)] rfl rfl trivial ⟨Res.le_refl _, Res.le_refl _, Res.le_refl _, trivial⟩) (.ret _ ?_)
               (conv => whnf)
               exact ⟨_, ⟨rfl, 60, .inr rfl, rfl⟩, Res.le_refl _, Res.le_refl _, Res.le_refl _, trivial⟩)
            | (refine .ent _ (mkSt [] (mtR r a b fr to 60 now (mtch r a b d (i + 1) now q) true)) (Entails.mk' [(1000000, 1000000), (60, 900), (1000001, 1000001)] rfl rfl trivial ⟨Res.le_refl _, Res.le_refl _, Res.le_refl _, trivial⟩) (.ret _ ?_)
               (conv => whnf)
               exact ⟨_, ⟨rfl, 60, .inr rfl, rfl⟩, Res.le_refl _, Res.le_refl _, Res.le_refl _, trivial⟩)
    cases f with
    | false => exact main false hf (fun h => by cases h)
    | true =>
      by_cases hp : now.1.length + (d + 1) < st.1.length
      · rw [mtch_prune (d + 1) i now st hp]
        refine spec_of hT (C := []) Tryz.func233 rfl Tryz.call233 rfl rfl rfl ?_
        conv => whnf
        repeat' (first
          | (refine br_intro (fun hb => ?_) (fun hb => ?_) <;> (try simp only [decide_eq_true_eq, decide_eq_false_iff_not, Bool.not_eq_true', Bool.not_eq_false', Bool.and_eq_true, Bool.or_eq_true, beq_iff_eq, not_and, Int.not_le, Int.not_lt, Int.toNat_natCast, beq_eq_false_iff_ne, ne_eq, eq_self, not_true_eq_false, not_false_eq_true] at hb) <;> (conv => whnf))
          | (refine RegX.rule (id := 0) hT rfl [] [(0, []), (1, []), (2, []), (3, []), (4, []), (5, []), (6, []), (7, []), (8, []), (9, []), (10, [5, 6, 7, 8, 9]), (11, [5, 6, 7, 8, 9]), (12, [5, 6, 7, 8, 9]), (13, [5, 6, 7, 8, 9]), (14, []), (15, [5, 6, 7, 8, 9, 10, 11, 12, 13, 14]), (16, []), (17, [5, 6, 7, 8, 9, 10, 11, 12, 13, 14, 15, 16]), (18, [5, 6, 7, 8, 9, 10, 11, 12, 13, 14, 15, 16]), (19, [5, 6, 7, 8, 9, 10, 11, 12, 13, 14, 15, 16]), (20, [5, 6, 7, 8, 9, 10, 11, 12, 13, 14, 15, 16]), (21, [5, 6, 7, 8, 9, 10, 11, 12, 13, 14, 15, 16]), (22, []), (23, [])] (by decide +kernel) ?_; conv => whnf)
          | (refine RegX.rule (id := 2) hT rfl [] [(0, []), (1, []), (2, []), (3, []), (4, []), (5, [0, 1, 2, 3, 4]), (6, [0, 1, 2, 3, 4]), (7, [0, 1, 2, 3, 4]), (8, [0, 1, 2, 3, 4]), (9, [0, 1, 2, 3, 4]), (11, [0, 1, 2, 3, 4, 5, 6, 7, 8, 9]), (12, [0, 1, 2, 3, 4, 5, 6, 7, 8, 9]), (13, [0, 1, 2, 3, 4, 5, 6, 7, 8, 9]), (14, [0, 1, 2, 3, 4, 5, 6, 7, 8, 9]), (15, [0, 1, 2, 3, 4, 5, 6, 7, 8, 9, 11, 12, 13, 14]), (16, [0, 1, 2, 3, 4, 5, 6, 7, 8, 9, 11, 12, 13, 14]), (17, [0, 1, 2, 3, 4, 5, 6, 7, 8, 9, 11, 12, 13, 14]), (18, [0, 1, 2, 3, 4, 5, 6, 7, 8, 9, 11, 12, 13, 14]), (20, [0, 1, 2, 3, 4, 5, 6, 7, 8, 9, 11, 12, 13, 14, 15, 16, 17, 18]), (21, [0, 1, 2, 3, 4, 5, 6, 7, 8, 9, 11, 12, 13, 14, 15, 16, 17, 18]), (22, [0, 1, 2, 3, 4, 5, 6, 7, 8, 9, 11, 12, 13, 14, 15, 16, 17, 18]), (23, [0, 1, 2, 3, 4, 5, 6, 7, 8, 9, 11, 12, 13, 14, 15, 16, 17, 18]), (24, [0, 1, 2, 3, 4, 5, 6, 7, 8, 9, 11, 12, 13, 14, 15, 16, 17, 18, 20, 21, 22, 23]), (25, [0, 1, 2, 3, 4, 5, 6, 7, 8, 9, 11, 12, 13, 14, 15, 16, 17, 18, 20, 21, 22, 23]), (26, [0, 1, 2, 3, 4, 5, 6, 7, 8, 9, 11, 12, 13, 14, 15, 16, 17, 18, 20, 21, 22, 23]), (27, [0, 1, 2, 3, 4, 5, 6, 7, 8, 9, 11, 12, 13, 14, 15, 16, 17, 18, 20, 21, 22, 23]), (10, [11, 12, 13, 14, 15, 16, 17, 18, 20, 21, 22, 23, 24, 25, 26, 27]), (19, [20, 21, 22, 23, 24, 25, 26, 27]), (28, []), (29, []), (30, []), (31, [])] (by decide +kernel) ?_; conv => whnf)
          | (refine RegX.rule (id := 4) hT rfl [] [(0, []), (1, [0]), (2, [0, 1]), (3, [0, 1, 2]), (4, [0, 1, 2]), (5, [0, 1, 2]), (6, [0, 1, 2]), (8, [0, 1, 2, 3, 4, 5, 6]), (9, [0, 1, 2, 3, 4, 5, 6]), (10, [0, 1, 2, 3, 4, 5, 6]), (11, [0, 1, 2, 3, 4, 5, 6]), (7, [0, 1, 2, 8, 9, 10, 11]), (12, [1, 2]), (13, [1, 2]), (14, [1, 2]), (15, [2]), (16, [2]), (17, [2]), (18, []), (19, []), (20, [])] (by decide +kernel) ?_; conv => whnf)
          | (refine RegX.rule (id := 8) hT rfl [] [(0, []), (1, []), (2, []), (3, []), (4, [0, 1, 2, 3]), (5, []), (6, []), (7, []), (8, []), (9, []), (10, []), (11, []), (12, [8, 9, 10, 11]), (13, [8, 9, 10, 11]), (14, [8, 9, 10, 11]), (15, [8, 9, 10, 11]), (16, [8, 9, 10, 11, 12, 13, 14, 15]), (17, [8, 9, 10, 11]), (18, [8, 9, 10, 11]), (19, [8, 9, 10, 11, 12, 13, 14, 15, 16, 17, 18]), (20, []), (21, []), (22, [])] (by decide +kernel) ?_; conv => whnf)
          | (refine RegX.rule (id := 9) hT rfl [] [(0, []), (1, []), (2, []), (3, []), (4, [0, 1, 2, 3]), (5, []), (6, []), (7, [0, 1, 2, 3, 4, 5, 6]), (8, []), (9, [])] (by decide +kernel) ?_; conv => whnf)
          | (refine RegX.rule (id := 10) hT rfl [] [(0, []), (1, []), (2, []), (3, []), (4, [0, 1, 2, 3]), (5, [0, 1, 2, 3, 4]), (6, [0, 1, 2, 3, 4, 5]), (7, [0, 1, 2, 3, 4, 5, 6]), (8, [0, 1, 2, 3, 4, 5, 6]), (9, [0, 1, 2, 3, 4, 5, 6]), (10, [0, 1, 2, 3, 4, 5, 6]), (11, [0, 1, 2, 3, 4, 5, 6, 7, 8, 9, 10]), (12, [0, 1, 2, 3, 4, 5, 6]), (13, [0, 1, 2, 3, 4, 5, 6, 7, 8, 9, 10, 11, 12]), (14, [0, 1, 2, 3, 4, 5, 6, 7, 8, 9, 10, 11, 12]), (15, [0, 1, 2, 3, 4, 5, 6, 7, 8, 9, 10, 11, 12]), (16, [0, 1, 2, 3, 4, 5, 6, 7, 8, 9, 10, 11, 12]), (17, [0, 1, 2, 3, 4, 5, 6, 7, 8, 9, 10, 11, 12, 13, 14, 15, 16]), (18, [0, 1, 2, 3, 4, 5, 6, 7, 8, 9, 10, 11, 12, 13, 14, 15, 16, 17]), (19, [0, 1, 2, 3, 4, 5, 6, 7, 8, 9, 10, 11, 12, 13, 14, 15, 16]), (20, [0, 1, 2, 3, 4, 5, 6, 7, 8, 9, 10, 11, 12, 13, 14, 15, 16]), (21, [0, 1, 2, 3, 4, 5, 6, 7, 8, 9, 10, 11, 12]), (22, [5, 6, 11, 12]), (23, [5, 6, 11, 12]), (24, [6]), (25, [6]), (26, [6]), (27, []), (28, []), (29, [])] (by decide +kernel) ?_; conv => whnf)
          | (refine RegX.rule (id := 12) hT rfl [] [(0, []), (1, []), (2, []), (3, []), (4, [0, 1, 2, 3]), (5, [0, 1, 2, 3, 4]), (6, [0, 1, 2, 3, 4, 5]), (7, [0, 1, 2, 3, 4, 5, 6]), (8, [0, 1, 2, 3, 4, 5, 6]), (9, [0, 1, 2, 3, 4, 5, 6]), (10, [0, 1, 2, 3, 4, 5, 6]), (11, [0, 1, 2, 3, 4, 5, 6, 7, 8, 9, 10]), (12, [0, 1, 2, 3, 4, 5, 6]), (13, [0, 1, 2, 3, 4, 5, 6, 7, 8, 9, 10, 11, 12]), (14, [0, 1, 2, 3, 4, 5, 6, 7, 8, 9, 10, 11, 12]), (15, [0, 1, 2, 3, 4, 5, 6, 7, 8, 9, 10, 11, 12]), (16, [0, 1, 2, 3, 4, 5, 6, 7, 8, 9, 10, 11, 12]), (17, [0, 1, 2, 3, 4, 5, 6, 7, 8, 9, 10, 11, 12, 13, 14, 15, 16]), (18, [0, 1, 2, 3, 4, 5, 6, 7, 8, 9, 10, 11, 12, 13, 14, 15, 16]), (19, [0, 1, 2, 3, 4, 5, 6, 7, 8, 9, 10, 11, 12, 13, 14, 15, 16]), (20, [0, 1, 2, 3, 4, 5, 6, 7, 8, 9, 10, 11, 12, 13, 14, 15, 16]), (21, [0, 1, 2, 3, 4, 5, 6, 7, 8, 9, 10, 11, 12, 13, 14, 15, 16]), (22, [0, 1, 2, 3, 4, 5, 6, 7, 8, 9, 10, 11, 12, 13, 14, 15, 16]), (23, [0, 1, 2, 3, 4, 5, 6, 7, 8, 9, 10, 11, 12]), (24, [5, 6, 11, 12, 21, 22, 23]), (25, [5, 6, 11, 12, 21, 22, 23]), (26, [6, 21, 22, 23]), (27, [6, 21, 22, 23]), (28, [6, 21, 22, 23]), (29, []), (30, []), (31, [])] (by decide +kernel) ?_; conv => whnf)
          | omega
          | (refine And.intro ?_ ?_; ((try dsimp only); first | omega | (refine ⟨by omega, by omega, Int.le_trans (Int.mul_le_mul_of_nonneg_right (Int.ofNat_le.2 (Nat.le_of_ble_eq_true (rfl : Nat.ble _ 1024 = true))) (by omega)) (by omega), by omega⟩) | (refine Nat.le_trans (Nat.mul_le_mul_left _ (Nat.le_of_ble_eq_true (rfl : Nat.ble _ 1024 = true))) ?_; omega) | (unfold inI64; omega) | (constructor <;> omega) | (simp only [inI64, List.length_cons, List.length_append, List.length_nil, List.length_set] at *; omega) | decide | (unfold inI64; decide)); conv => whnf)
          | omega | decide | assumption)
        refine .ret _ ?_
        conv => whnf
        exact ⟨_, ⟨rfl, 1000002, .inl rfl, rfl⟩, Res.le_refl _, Res.le_refl _, Res.le_refl _, trivial⟩
      · exact main true hf (fun _ => by omega)
end Go.Proofs.YtnkdlkgannnfhaaGreatDoor
set_option maxRecDepth 20000
namespace Go.Proofs.YtnkdlkgannnfhaaGreatDoor
open Go Go.Eng
theorem likeM_succ (l : List Mrk) (m : Mrk) (k : Nat) : ((List.range (k + 1)).filter fun j => sameM (l.getD j mk0) m) = if sameM (l.getD k mk0) m then ((List.range k).filter fun j => sameM (l.getD j mk0) m) ++ [k] else ((List.range k).filter fun j => sameM (l.getD j mk0) m) := by
  rw [List.range_succ, List.filter_append]
  by_cases h : sameM (l.getD k mk0) m = true
  · rw [if_pos h, List.filter_cons_of_pos (p := fun j => sameM (l.getD j mk0) m) h]; rfl
  · rw [if_neg h, List.filter_cons_of_neg (p := fun j => sameM (l.getD j mk0) m) h]; simp
theorem toI_snoc (l : List Nat) (k : Nat) : toI (l ++ [k]) = toI l ++ [(k : Int)] := by simp [toI]
-- the marks of one panel and kind
theorem z142 (a : List Mrk) (ha : a.length ≤ 60) (m : Mrk) (i : Nat) (hi : i < a.length) : FSpec Tryz.prog 142 [.agg ((mkF m).map .d), .ptr 1000001 0, .ptr 1000002 0] [(1000001, .cells 77 [.d (mrks a)]), (1000002, icell i)]
    (fun y r => y = .d (.bool (sameM m (a.getD i mk0))) ∧ r = [(1000001, .cells 77 [.d (mrks a)]), (1000002, icell i)]) := by
  refine spec_of hT (C := []) Tryz.func142 rfl Tryz.call142 rfl rfl rfl ?_
  conv => whnf
  repeat' (first
    | (refine br_intro (fun hb => ?_) (fun hb => ?_) <;> (try simp only [decide_eq_true_eq, decide_eq_false_iff_not, Bool.not_eq_true', Bool.not_eq_false', Bool.and_eq_true, Bool.or_eq_true, beq_iff_eq, not_and, Int.not_le, Int.not_lt, Int.toNat_natCast, beq_eq_false_iff_ne, ne_eq, eq_self, not_true_eq_false, not_false_eq_true] at hb) <;> (conv => whnf))
    | (refine RegX.rule (id := 1) hT rfl [] [(0, []), (1, []), (2, [0, 1]), (3, [0, 1, 2]), (4, [0, 1]), (5, [0, 1]), (6, [0, 1]), (7, []), (8, []), (9, []), (10, []), (11, [9, 10]), (12, [9, 10, 11]), (13, [9, 10]), (14, [9, 10]), (15, [9, 10]), (16, []), (17, []), (18, [])] (by decide +kernel) ?_; conv => whnf)
    | omega
    | (refine And.intro ?_ ?_; ((try dsimp only); first | omega | (refine ⟨by omega, by omega, Int.le_trans (Int.mul_le_mul_of_nonneg_right (Int.ofNat_le.2 (Nat.le_of_ble_eq_true (rfl : Nat.ble _ 1024 = true))) (by omega)) (by omega), by omega⟩) | (refine Nat.le_trans (Nat.mul_le_mul_left _ (Nat.le_of_ble_eq_true (rfl : Nat.ble _ 1024 = true))) ?_; omega) | (unfold inI64; omega) | (constructor <;> omega) | (simp only [inI64, List.length_cons, List.length_append, List.length_nil, List.length_set] at *; omega) | decide | (unfold inI64; decide)); conv => whnf)
    | omega | decide | assumption)
  all_goals
    refine .ret _ ?_
    (conv => whnf)
    refine ⟨[(1000001, .cells 77 [.d (mrks a)]), (1000002, icell i)], ⟨?_, rfl⟩, Res.le_refl _, Res.le_refl _, trivial⟩
    conv => lhs; whnf
    congr 2
    unfold sameM
    grind
def like1 (a : List Mrk) (i : Nat) (n : Nat) : List Int := toI ((List.range n).filter fun j => sameM (a.getD j mk0) (a.getD i mk0))
def like2 (a b : List Mrk) (i : Nat) (n : Nat) : List Int := toI ((List.range n).filter fun j => sameM (b.getD j mk0) (a.getD i mk0))
theorem like1_len (a : List Mrk) (i n : Nat) : (like1 a i n).length ≤ n := by
  unfold like1; rw [toI_len]; exact Nat.le_trans (List.length_filter_le _ _) (by simp)
theorem like2_len (a b : List Mrk) (i n : Nat) : (like2 a b i n).length ≤ n := by
  unfold like2; rw [toI_len]; exact Nat.le_trans (List.length_filter_le _ _) (by simp)
theorem like1_eq {a : List Mrk} (h : incM a) {i : Nat} (hi : i < a.length) (hs : ∀ j, j < i → sameM (a.getD j mk0) (a.getD i mk0) = false) : like1 a i a.length = rangeI i (runE a i - i) := by
  obtain ⟨r1, r2, _⟩ := runE_spec hi
  unfold like1 rangeI
  rw [filter_range_eq (i := i) (t := runE a i) (by omega) r2 (fun j hj => run_like h hi hs j hj)]
theorem rangeI_last (i d : Nat) (h : 0 < d) : (rangeI i d).getD (d - 1) 0 = ((i + d - 1 : Nat) : Int) := by
  unfold rangeI
  rw [toI_get (by simp; omega)]
  congr 1
  rw [List.getD_eq_getElem?_getD, List.getElem?_range' (by omega)]
  simp; omega
def startM (a : List Mrk) (i : Nat) : Prop := i < a.length → ∀ j, j < i → sameM (a.getD j mk0) (a.getD i mk0) = false
theorem mtPre_len {r : Rul} {a b : List Mrk} {i : Nat} {out : List Prg} (h : mtPre r a b i out) : out.length ≤ a.length := by
  obtain ⟨_, f, _, h2⟩ := h
  have := (mtL_ok r a b).1
  rw [← h2, List.length_append] at this
  omega
-- MatchOf
set_option maxHeartbeats 4000000 in
theorem z47o (r : Rul) (a b : List Mrk) (hr : rBd r) (hinc : incM a) (ha : a.length ≤ 60 ∧ ∀ i, i < a.length → mBd (a.getD i mk0)) (hb2 : b.length ≤ 60 ∧ ∀ i, i < b.length → mBd (b.getD i mk0)) :
    FSpec Tryz.prog 47 [.agg ((ruF r).map .d), .d (mrks a), .d (mrks b)] [] (fun y r' => y = .buf 7 ∧ r' = [(7, prB (mtL r a b))]) := by
  have ha1 := ha.1
  have hb1 := hb2.1
  refine spec_of hT (C := []) Tryz.func47 rfl Tryz.call47 rfl rfl rfl ?_
  conv => whnf
  refine LoopX.rule hT (C := []) (ι := Nat × List Prg) (fun (i, out) => mtPre r a b i out ∧ startM a i) (fun (i, out) => mkSt [(2, .d (mrks b)), (3, .ptr 3 0), (4, .ptr 4 0), (7, .buf 7), (8, .ptr 8 0)]
    [(3, .cells 76 ((ruF r).map .d)), (4, .cells 77 [.d (mrks a)]), (7, prB out), (8, icell i)]) (fun (i, _) => a.length - i) (0, []) ⟨mtPre_zero, fun _ j hj => by omega⟩ ?_ ?_
  · exact (Entails.nil 7 7 85 2 (rowF prF pr0 []) rfl rfl (by decide)).trans (by refine Entails.mk' [(3, 3), (4, 4), (7, 7), (8, 8)] rfl rfl ?_ ?_ <;> repeat' (first | exact True.intro | exact SV.le_refl _ | exact Res.le_refl _ | exact SV.le_int (by omega) | exact SV.le_any _ | refine And.intro ?_ ?_))
  rintro ⟨i, out⟩ ⟨p1, p2⟩
  have hil : i ≤ a.length := p1.1
  have hol := mtPre_len p1
  have e1 : (i : Int).toNat = i := Int.toNat_natCast i
  by_cases hi : i < a.length
  · obtain ⟨r1, r2, r3, r4⟩ := runE_spec hi
    have p2 := p2 hi
    conv => whnf
    repeat' (first
      | (refine br_intro (fun hb => ?_) (fun hb => ?_) <;> (try simp only [decide_eq_true_eq, decide_eq_false_iff_not, Bool.not_eq_true', Bool.not_eq_false', Bool.and_eq_true, Bool.or_eq_true, beq_iff_eq, not_and, Int.not_le, Int.not_lt, Int.toNat_natCast, beq_eq_false_iff_ne, ne_eq, eq_self, not_true_eq_false, not_false_eq_true] at hb) <;> (conv => whnf))
      | omega
      | (refine And.intro ?_ ?_; ((try dsimp only); first | omega | (refine ⟨by omega, by omega, Int.le_trans (Int.mul_le_mul_of_nonneg_right (Int.ofNat_le.2 (Nat.le_of_ble_eq_true (rfl : Nat.ble _ 1024 = true))) (by omega)) (by omega), by omega⟩) | (refine Nat.le_trans (Nat.mul_le_mul_left _ (Nat.le_of_ble_eq_true (rfl : Nat.ble _ 1024 = true))) ?_; omega) | (unfold inI64; omega) | (constructor <;> omega) | (simp only [inI64, List.length_cons, List.length_append, List.length_nil, List.length_set] at *; omega) | decide | (unfold inI64; decide)); conv => whnf)
      | omega | decide | assumption)
    refine LoopX.rule hT (C := []) (ι := Nat) (fun k => k ≤ a.length) (fun k => mkSt [(2, .d (mrks b)), (3, .ptr 3 0), (4, .ptr 4 0), (7, .buf 7), (8, .ptr 8 0), (9, .fn 142 [.ptr 4 0, .ptr 8 0]), (10, .buf 10), (11, .d .nilsl), (22, .d (mrks a)), (23, .d (.int .i64 a.length)), (24, .d (.int .i64 k))]
      [(3, .cells 76 ((ruF r).map .d)), (4, .cells 77 [.d (mrks a)]), (7, prB out), (8, icell i), (10, seqB 3 1 iF 0 (like1 a i k))]) (fun k => a.length - k) 0 (by omega) ?_ ?_
    · exact (Entails.nil 10 10 3 1 (rowF iF 0 []) rfl rfl (by decide)).trans (by refine Entails.mk' [(3, 3), (4, 4), (7, 7), (8, 8), (10, 10)] rfl rfl ?_ ?_ <;> repeat' (first | exact True.intro | exact SV.le_refl _ | exact Res.le_refl _ | exact SV.le_int (by omega) | exact SV.le_any _ | refine And.intro ?_ ?_))
    rintro k k1
    have e2 : (k : Int).toNat = k := Int.toNat_natCast k
    have hll := like1_len a i k
    have hls : like1 a i (k + 1) = if sameM (a.getD k mk0) (a.getD i mk0) = true then like1 a i k ++ [(k : Int)] else like1 a i k := by
      unfold like1; rw [likeM_succ]; split <;> simp [toI_snoc]
    conv => whnf
    repeat' (first
      | (refine CallX.of (z142 a ha1 (a.getD k mk0) i hi) [(1000001, 4), (1000002, 8)] rfl ⟨SV.le_refl _, SV.le_refl _, SV.le_refl _, trivial⟩ ⟨Res.le_refl _, Res.le_refl _, trivial⟩ rfl rfl ?_; rintro x rout ⟨rfl, rfl⟩; refine ⟨rfl, ?_⟩; conv => whnf)
      | (refine br_intro (fun hb => ?_) (fun hb => ?_) <;> (try simp only [decide_eq_true_eq, decide_eq_false_iff_not, Bool.not_eq_true', Bool.not_eq_false', Bool.and_eq_true, Bool.or_eq_true, beq_iff_eq, not_and, Int.not_le, Int.not_lt, Int.toNat_natCast, beq_eq_false_iff_ne, ne_eq, eq_self, not_true_eq_false, not_false_eq_true] at hb) <;> (conv => whnf))
      | omega
      | (refine And.intro ?_ ?_; ((try dsimp only); first | omega | (refine ⟨by omega, by omega, Int.le_trans (Int.mul_le_mul_of_nonneg_right (Int.ofNat_le.2 (Nat.le_of_ble_eq_true (rfl : Nat.ble _ 1024 = true))) (by omega)) (by omega), by omega⟩) | (refine Nat.le_trans (Nat.mul_le_mul_left _ (Nat.le_of_ble_eq_true (rfl : Nat.ble _ 1024 = true))) ?_; omega) | (unfold inI64; omega) | (constructor <;> omega) | (simp only [inI64, List.length_cons, List.length_append, List.length_nil, List.length_set] at *; omega) | decide | (unfold inI64; decide)); conv => whnf)
      | omega | decide | assumption)
    · refine ⟨k + 1, by omega, by omega, ?_⟩
      rw [hls, if_pos (by assumption)]
      exact Entails.mk' [(3, 3), (4, 4), (7, 7), (8, 8), (10, 35)] rfl rfl ⟨SV.le_refl _, SV.le_refl _, SV.le_refl _, SV.le_refl _, SV.le_refl _, SV.le_refl _, SV.le_refl _, SV.le_refl _, SV.le_refl _, SV.le_refl _, SV.le_refl _, trivial⟩ ⟨Res.le_refl _, Res.le_refl _, Res.le_refl _, Res.le_refl _, Res.le_snocF (x := (k : Int)) rfl, trivial⟩
    · refine ⟨k + 1, by omega, by omega, ?_⟩
      rw [hls, if_neg (by simpa using hb)]
      exact (by refine Entails.mk' [(3, 3), (4, 4), (7, 7), (8, 8), (10, 10)] rfl rfl ?_ ?_ <;> repeat' (first | exact True.intro | exact SV.le_refl _ | exact Res.le_refl _ | exact SV.le_int (by omega) | exact SV.le_any _ | refine And.intro ?_ ?_))
    obtain rfl : k = a.length := by omega
    rw [like1_eq hinc hi p2]
    refine LoopX.rule hT (C := []) (ι := Nat) (fun k => k ≤ b.length) (fun k => mkSt [(2, .d (mrks b)), (3, .ptr 3 0), (4, .ptr 4 0), (7, .buf 7), (8, .ptr 8 0), (9, .fn 142 [.ptr 4 0, .ptr 8 0]), (10, .buf 10), (11, .buf 11), (37, .d (mrks b)), (38, .d (.int .i64 b.length)), (39, .d (.int .i64 k))]
      [(3, .cells 76 ((ruF r).map .d)), (4, .cells 77 [.d (mrks a)]), (7, prB out), (8, icell i), (10, seqB 3 1 iF 0 (rangeI i (runE a i - i))), (11, seqB 3 1 iF 0 (like2 a b i k))]) (fun k => b.length - k) 0 (by omega) ?_ ?_
    · exact (Entails.nil 11 11 3 1 (rowF iF 0 []) rfl rfl (by decide)).trans (by refine Entails.mk' [(3, 3), (4, 4), (7, 7), (8, 8), (10, 10), (11, 11)] rfl rfl ?_ ?_ <;> repeat' (first | exact True.intro | exact SV.le_refl _ | exact Res.le_refl _ | exact SV.le_int (by omega) | exact SV.le_any _ | refine And.intro ?_ ?_))
    rintro k k1
    have e2 : (k : Int).toNat = k := Int.toNat_natCast k
    have hll := like2_len a b i k
    have hls : like2 a b i (k + 1) = if sameM (b.getD k mk0) (a.getD i mk0) = true then like2 a b i k ++ [(k : Int)] else like2 a b i k := by
      unfold like2; rw [likeM_succ]; split <;> simp [toI_snoc]
    conv => whnf
    repeat' (first
      | (refine CallX.of (z142 a ha1 (b.getD k mk0) i hi) [(1000001, 4), (1000002, 8)] rfl ⟨SV.le_refl _, SV.le_refl _, SV.le_refl _, trivial⟩ ⟨Res.le_refl _, Res.le_refl _, trivial⟩ rfl rfl ?_; rintro x rout ⟨rfl, rfl⟩; refine ⟨rfl, ?_⟩; conv => whnf)
      | (refine br_intro (fun hb => ?_) (fun hb => ?_) <;> (try simp only [decide_eq_true_eq, decide_eq_false_iff_not, Bool.not_eq_true', Bool.not_eq_false', Bool.and_eq_true, Bool.or_eq_true, beq_iff_eq, not_and, Int.not_le, Int.not_lt, Int.toNat_natCast, beq_eq_false_iff_ne, ne_eq, eq_self, not_true_eq_false, not_false_eq_true] at hb) <;> (conv => whnf))
      | omega
      | (refine And.intro ?_ ?_; ((try dsimp only); first | omega | (refine ⟨by omega, by omega, Int.le_trans (Int.mul_le_mul_of_nonneg_right (Int.ofNat_le.2 (Nat.le_of_ble_eq_true (rfl : Nat.ble _ 1024 = true))) (by omega)) (by omega), by omega⟩) | (refine Nat.le_trans (Nat.mul_le_mul_left _ (Nat.le_of_ble_eq_true (rfl : Nat.ble _ 1024 = true))) ?_; omega) | (unfold inI64; omega) | (constructor <;> omega) | (simp only [inI64, List.length_cons, List.length_append, List.length_nil, List.length_set] at *; omega) | decide | (unfold inI64; decide)); conv => whnf)
      | omega | decide | assumption)
    · refine ⟨k + 1, by omega, by omega, ?_⟩
      rw [hls, if_pos (by assumption)]
      exact Entails.mk' [(3, 3), (4, 4), (7, 7), (8, 8), (10, 10), (11, 50)] rfl rfl ⟨SV.le_refl _, SV.le_refl _, SV.le_refl _, SV.le_refl _, SV.le_refl _, SV.le_refl _, SV.le_refl _, SV.le_refl _, SV.le_refl _, SV.le_refl _, SV.le_refl _, trivial⟩ ⟨Res.le_refl _, Res.le_refl _, Res.le_refl _, Res.le_refl _, Res.le_refl _, Res.le_snocF (x := (k : Int)) rfl, trivial⟩
    · refine ⟨k + 1, by omega, by omega, ?_⟩
      rw [hls, if_neg (by simpa using hb)]
      exact (by refine Entails.mk' [(3, 3), (4, 4), (7, 7), (8, 8), (10, 10), (11, 11)] rfl rfl ?_ ?_ <;> repeat' (first | exact True.intro | exact SV.le_refl _ | exact Res.le_refl _ | exact SV.le_int (by omega) | exact SV.le_any _ | refine And.intro ?_ ?_))
    obtain rfl : k = b.length := by omega
    rw [show like2 a b i b.length = toI (likeM b (a.getD i mk0)) from rfl]
    have h143 := z143 r a b (a.getD i mk0) hr ha hb2 (runE a i - i) i ([], 0) ([], 0) (by omega) (fun j h1 h2 => r3 j h1 (by omega)) ⟨by simp, by simp, by simp⟩ (by simp)
    have hml := mtch_len (r := r) (a := a) (b := b) (runE a i - i) i ([], 0) ([], 0) (runE a i - i) (by simp) (by simp)
    have hnext := mtPre_step p1 hi
    have hst : startM a (runE a i) := fun h => run_next hinc hi h
    have hrl := rangeI_len i (runE a i - i)
    have hlast : (rangeI i (runE a i - i)).getD (((rangeI i (runE a i - i)).length : Int) - 1).toNat 0 = ((runE a i - 1 : Nat) : Int) := by
      rw [hrl, show (((runE a i - i : Nat) : Int) - 1).toNat = runE a i - i - 1 by omega, rangeI_last i _ (by omega)]
      congr 1; omega
    repeat' (first
      | (refine CallX.freeze _ _ _ _ 10 3 1 _ _ rfl rfl ?_; refine CallX.freeze _ _ _ _ 11 3 1 _ _ rfl rfl ?_; refine CallX.of h143 [(1000006, 16)] rfl ⟨SV.le_refl _, SV.le_refl _, SV.le_refl _, SV.le_refl _, SV.le_refl _, SV.le_agg ⟨SV.le_nilS, SV.le_refl _, trivial⟩, SV.le_refl _, trivial⟩ ⟨Res.le_cellsL ⟨SV.le_nilS, SV.le_refl _, trivial⟩, trivial⟩ rfl rfl ?_; rintro x rout ⟨rfl, rfl⟩; refine ⟨rfl, ?_⟩; conv => whnf)
      | (refine br_intro (fun hb => ?_) (fun hb => ?_) <;> (try simp only [decide_eq_true_eq, decide_eq_false_iff_not, Bool.not_eq_true', Bool.not_eq_false', Bool.and_eq_true, Bool.or_eq_true, beq_iff_eq, not_and, Int.not_le, Int.not_lt, Int.toNat_natCast, beq_eq_false_iff_ne, ne_eq, eq_self, not_true_eq_false, not_false_eq_true] at hb) <;> (conv => whnf))
      | omega
      | (refine And.intro ?_ ?_; ((try dsimp only); first | omega | (refine ⟨by omega, by omega, Int.le_trans (Int.mul_le_mul_of_nonneg_right (Int.ofNat_le.2 (Nat.le_of_ble_eq_true (rfl : Nat.ble _ 1024 = true))) (by omega)) (by omega), by omega⟩) | (refine Nat.le_trans (Nat.mul_le_mul_left _ (Nat.le_of_ble_eq_true (rfl : Nat.ble _ 1024 = true))) ?_; omega) | (unfold inI64; omega) | (constructor <;> omega) | (simp only [inI64, List.length_cons, List.length_append, List.length_nil, List.length_set] at *; omega) | decide | (unfold inI64; decide)); conv => whnf)
      | omega | decide | assumption)
    refine ⟨(runE a i, out ++ (mtch r a b (runE a i - i) i ([], 0) ([], 0)).1), ⟨hnext, hst⟩, (show a.length - runE a i < a.length - i by omega), Entails.mk' [(3, 3), (4, 4), (7, 62), (8, 100008)] rfl rfl ⟨SV.le_refl _, SV.le_refl _, SV.le_refl _, SV.le_refl _, SV.le_refl _, trivial⟩ ⟨Res.le_refl _, Res.le_refl _, Res.le_appF, Res.le_cellsL ⟨SV.le_int (by omega), trivial⟩, trivial⟩⟩
  · have hout := mtPre_end p1 hi
    subst hout
    conv => whnf
    repeat' (first
      | (refine br_intro (fun hb => ?_) (fun hb => ?_) <;> (try simp only [decide_eq_true_eq, decide_eq_false_iff_not, Bool.not_eq_true', Bool.not_eq_false', Bool.and_eq_true, Bool.or_eq_true, beq_iff_eq, not_and, Int.not_le, Int.not_lt, Int.toNat_natCast, beq_eq_false_iff_ne, ne_eq, eq_self, not_true_eq_false, not_false_eq_true] at hb) <;> (conv => whnf))
      | omega
      | (refine And.intro ?_ ?_; ((try dsimp only); first | omega | (refine ⟨by omega, by omega, Int.le_trans (Int.mul_le_mul_of_nonneg_right (Int.ofNat_le.2 (Nat.le_of_ble_eq_true (rfl : Nat.ble _ 1024 = true))) (by omega)) (by omega), by omega⟩) | (refine Nat.le_trans (Nat.mul_le_mul_left _ (Nat.le_of_ble_eq_true (rfl : Nat.ble _ 1024 = true))) ?_; omega) | (unfold inI64; omega) | (constructor <;> omega) | (simp only [inI64, List.length_cons, List.length_append, List.length_nil, List.length_set] at *; omega) | decide | (unfold inI64; decide)); conv => whnf)
      | omega | decide | assumption)
    refine .ret _ ?_
    (conv => whnf)
    exact ⟨_, ⟨rfl, rfl⟩, Res.le_refl _, trivial⟩
-- MatchOf
set_option maxHeartbeats 4000000 in
theorem z47f (r : Rul) (a b : List Mrk) (hr : rBd r) (hinc : incM a) (ha : a.length ≤ 60 ∧ ∀ i, i < a.length → mBd (a.getD i mk0)) (hb2 : b.length ≤ 60 ∧ ∀ i, i < b.length → mBd (b.getD i mk0)) :
    FSpec Tryz.prog 47 [.agg ((ruF r).map .d), .d (mrks a), .d (mrks b)] [] (fun y r' => y = .d (prgs (mtL r a b)) ∧ r' = []) := by
  have ha1 := ha.1
  have hb1 := hb2.1
  refine spec_of hT (C := []) Tryz.func47 rfl Tryz.call47 rfl rfl rfl ?_
  conv => whnf
  refine LoopX.rule hT (C := []) (ι := Nat × List Prg) (fun (i, out) => mtPre r a b i out ∧ startM a i) (fun (i, out) => mkSt [(2, .d (mrks b)), (3, .ptr 3 0), (4, .ptr 4 0), (7, .buf 7), (8, .ptr 8 0)]
    [(3, .cells 76 ((ruF r).map .d)), (4, .cells 77 [.d (mrks a)]), (7, prB out), (8, icell i)]) (fun (i, _) => a.length - i) (0, []) ⟨mtPre_zero, fun _ j hj => by omega⟩ ?_ ?_
  · exact (Entails.nil 7 7 85 2 (rowF prF pr0 []) rfl rfl (by decide)).trans (by refine Entails.mk' [(3, 3), (4, 4), (7, 7), (8, 8)] rfl rfl ?_ ?_ <;> repeat' (first | exact True.intro | exact SV.le_refl _ | exact Res.le_refl _ | exact SV.le_int (by omega) | exact SV.le_any _ | refine And.intro ?_ ?_))
  rintro ⟨i, out⟩ ⟨p1, p2⟩
  have hil : i ≤ a.length := p1.1
  have hol := mtPre_len p1
  have e1 : (i : Int).toNat = i := Int.toNat_natCast i
  by_cases hi : i < a.length
  · obtain ⟨r1, r2, r3, r4⟩ := runE_spec hi
    have p2 := p2 hi
    conv => whnf
    repeat' (first
      | (refine br_intro (fun hb => ?_) (fun hb => ?_) <;> (try simp only [decide_eq_true_eq, decide_eq_false_iff_not, Bool.not_eq_true', Bool.not_eq_false', Bool.and_eq_true, Bool.or_eq_true, beq_iff_eq, not_and, Int.not_le, Int.not_lt, Int.toNat_natCast, beq_eq_false_iff_ne, ne_eq, eq_self, not_true_eq_false, not_false_eq_true] at hb) <;> (conv => whnf))
      | omega
      | (refine And.intro ?_ ?_; ((try dsimp only); first | omega | (refine ⟨by omega, by omega, Int.le_trans (Int.mul_le_mul_of_nonneg_right (Int.ofNat_le.2 (Nat.le_of_ble_eq_true (rfl : Nat.ble _ 1024 = true))) (by omega)) (by omega), by omega⟩) | (refine Nat.le_trans (Nat.mul_le_mul_left _ (Nat.le_of_ble_eq_true (rfl : Nat.ble _ 1024 = true))) ?_; omega) | (unfold inI64; omega) | (constructor <;> omega) | (simp only [inI64, List.length_cons, List.length_append, List.length_nil, List.length_set] at *; omega) | decide | (unfold inI64; decide)); conv => whnf)
      | omega | decide | assumption)
    refine LoopX.rule hT (C := []) (ι := Nat) (fun k => k ≤ a.length) (fun k => mkSt [(2, .d (mrks b)), (3, .ptr 3 0), (4, .ptr 4 0), (7, .buf 7), (8, .ptr 8 0), (9, .fn 142 [.ptr 4 0, .ptr 8 0]), (10, .buf 10), (11, .d .nilsl), (22, .d (mrks a)), (23, .d (.int .i64 a.length)), (24, .d (.int .i64 k))]
      [(3, .cells 76 ((ruF r).map .d)), (4, .cells 77 [.d (mrks a)]), (7, prB out), (8, icell i), (10, seqB 3 1 iF 0 (like1 a i k))]) (fun k => a.length - k) 0 (by omega) ?_ ?_
    · exact (Entails.nil 10 10 3 1 (rowF iF 0 []) rfl rfl (by decide)).trans (by refine Entails.mk' [(3, 3), (4, 4), (7, 7), (8, 8), (10, 10)] rfl rfl ?_ ?_ <;> repeat' (first | exact True.intro | exact SV.le_refl _ | exact Res.le_refl _ | exact SV.le_int (by omega) | exact SV.le_any _ | refine And.intro ?_ ?_))
    rintro k k1
    have e2 : (k : Int).toNat = k := Int.toNat_natCast k
    have hll := like1_len a i k
    have hls : like1 a i (k + 1) = if sameM (a.getD k mk0) (a.getD i mk0) = true then like1 a i k ++ [(k : Int)] else like1 a i k := by
      unfold like1; rw [likeM_succ]; split <;> simp [toI_snoc]
    conv => whnf
    repeat' (first
      | (refine CallX.of (z142 a ha1 (a.getD k mk0) i hi) [(1000001, 4), (1000002, 8)] rfl ⟨SV.le_refl _, SV.le_refl _, SV.le_refl _, trivial⟩ ⟨Res.le_refl _, Res.le_refl _, trivial⟩ rfl rfl ?_; rintro x rout ⟨rfl, rfl⟩; refine ⟨rfl, ?_⟩; conv => whnf)
      | (refine br_intro (fun hb => ?_) (fun hb => ?_) <;> (try simp only [decide_eq_true_eq, decide_eq_false_iff_not, Bool.not_eq_true', Bool.not_eq_false', Bool.and_eq_true, Bool.or_eq_true, beq_iff_eq, not_and, Int.not_le, Int.not_lt, Int.toNat_natCast, beq_eq_false_iff_ne, ne_eq, eq_self, not_true_eq_false, not_false_eq_true] at hb) <;> (conv => whnf))
      | omega
      | (refine And.intro ?_ ?_; ((try dsimp only); first | omega | (refine ⟨by omega, by omega, Int.le_trans (Int.mul_le_mul_of_nonneg_right (Int.ofNat_le.2 (Nat.le_of_ble_eq_true (rfl : Nat.ble _ 1024 = true))) (by omega)) (by omega), by omega⟩) | (refine Nat.le_trans (Nat.mul_le_mul_left _ (Nat.le_of_ble_eq_true (rfl : Nat.ble _ 1024 = true))) ?_; omega) | (unfold inI64; omega) | (constructor <;> omega) | (simp only [inI64, List.length_cons, List.length_append, List.length_nil, List.length_set] at *; omega) | decide | (unfold inI64; decide)); conv => whnf)
      | omega | decide | assumption)
    · refine ⟨k + 1, by omega, by omega, ?_⟩
      rw [hls, if_pos (by assumption)]
      exact Entails.mk' [(3, 3), (4, 4), (7, 7), (8, 8), (10, 35)] rfl rfl ⟨SV.le_refl _, SV.le_refl _, SV.le_refl _, SV.le_refl _, SV.le_refl _, SV.le_refl _, SV.le_refl _, SV.le_refl _, SV.le_refl _, SV.le_refl _, SV.le_refl _, trivial⟩ ⟨Res.le_refl _, Res.le_refl _, Res.le_refl _, Res.le_refl _, Res.le_snocF (x := (k : Int)) rfl, trivial⟩
    · refine ⟨k + 1, by omega, by omega, ?_⟩
      rw [hls, if_neg (by simpa using hb)]
      exact (by refine Entails.mk' [(3, 3), (4, 4), (7, 7), (8, 8), (10, 10)] rfl rfl ?_ ?_ <;> repeat' (first | exact True.intro | exact SV.le_refl _ | exact Res.le_refl _ | exact SV.le_int (by omega) | exact SV.le_any _ | refine And.intro ?_ ?_))
    obtain rfl : k = a.length := by omega
    rw [like1_eq hinc hi p2]
    refine LoopX.rule hT (C := []) (ι := Nat) (fun k => k ≤ b.length) (fun k => mkSt [(2, .d (mrks b)), (3, .ptr 3 0), (4, .ptr 4 0), (7, .buf 7), (8, .ptr 8 0), (9, .fn 142 [.ptr 4 0, .ptr 8 0]), (10, .buf 10), (11, .buf 11), (37, .d (mrks b)), (38, .d (.int .i64 b.length)), (39, .d (.int .i64 k))]
      [(3, .cells 76 ((ruF r).map .d)), (4, .cells 77 [.d (mrks a)]), (7, prB out), (8, icell i), (10, seqB 3 1 iF 0 (rangeI i (runE a i - i))), (11, seqB 3 1 iF 0 (like2 a b i k))]) (fun k => b.length - k) 0 (by omega) ?_ ?_
    · exact (Entails.nil 11 11 3 1 (rowF iF 0 []) rfl rfl (by decide)).trans (by refine Entails.mk' [(3, 3), (4, 4), (7, 7), (8, 8), (10, 10), (11, 11)] rfl rfl ?_ ?_ <;> repeat' (first | exact True.intro | exact SV.le_refl _ | exact Res.le_refl _ | exact SV.le_int (by omega) | exact SV.le_any _ | refine And.intro ?_ ?_))
    rintro k k1
    have e2 : (k : Int).toNat = k := Int.toNat_natCast k
    have hll := like2_len a b i k
    have hls : like2 a b i (k + 1) = if sameM (b.getD k mk0) (a.getD i mk0) = true then like2 a b i k ++ [(k : Int)] else like2 a b i k := by
      unfold like2; rw [likeM_succ]; split <;> simp [toI_snoc]
    conv => whnf
    repeat' (first
      | (refine CallX.of (z142 a ha1 (b.getD k mk0) i hi) [(1000001, 4), (1000002, 8)] rfl ⟨SV.le_refl _, SV.le_refl _, SV.le_refl _, trivial⟩ ⟨Res.le_refl _, Res.le_refl _, trivial⟩ rfl rfl ?_; rintro x rout ⟨rfl, rfl⟩; refine ⟨rfl, ?_⟩; conv => whnf)
      | (refine br_intro (fun hb => ?_) (fun hb => ?_) <;> (try simp only [decide_eq_true_eq, decide_eq_false_iff_not, Bool.not_eq_true', Bool.not_eq_false', Bool.and_eq_true, Bool.or_eq_true, beq_iff_eq, not_and, Int.not_le, Int.not_lt, Int.toNat_natCast, beq_eq_false_iff_ne, ne_eq, eq_self, not_true_eq_false, not_false_eq_true] at hb) <;> (conv => whnf))
      | omega
      | (refine And.intro ?_ ?_; ((try dsimp only); first | omega | (refine ⟨by omega, by omega, Int.le_trans (Int.mul_le_mul_of_nonneg_right (Int.ofNat_le.2 (Nat.le_of_ble_eq_true (rfl : Nat.ble _ 1024 = true))) (by omega)) (by omega), by omega⟩) | (refine Nat.le_trans (Nat.mul_le_mul_left _ (Nat.le_of_ble_eq_true (rfl : Nat.ble _ 1024 = true))) ?_; omega) | (unfold inI64; omega) | (constructor <;> omega) | (simp only [inI64, List.length_cons, List.length_append, List.length_nil, List.length_set] at *; omega) | decide | (unfold inI64; decide)); conv => whnf)
      | omega | decide | assumption)
    · refine ⟨k + 1, by omega, by omega, ?_⟩
      rw [hls, if_pos (by assumption)]
      exact Entails.mk' [(3, 3), (4, 4), (7, 7), (8, 8), (10, 10), (11, 50)] rfl rfl ⟨SV.le_refl _, SV.le_refl _, SV.le_refl _, SV.le_refl _, SV.le_refl _, SV.le_refl _, SV.le_refl _, SV.le_refl _, SV.le_refl _, SV.le_refl _, SV.le_refl _, trivial⟩ ⟨Res.le_refl _, Res.le_refl _, Res.le_refl _, Res.le_refl _, Res.le_refl _, Res.le_snocF (x := (k : Int)) rfl, trivial⟩
    · refine ⟨k + 1, by omega, by omega, ?_⟩
      rw [hls, if_neg (by simpa using hb)]
      exact (by refine Entails.mk' [(3, 3), (4, 4), (7, 7), (8, 8), (10, 10), (11, 11)] rfl rfl ?_ ?_ <;> repeat' (first | exact True.intro | exact SV.le_refl _ | exact Res.le_refl _ | exact SV.le_int (by omega) | exact SV.le_any _ | refine And.intro ?_ ?_))
    obtain rfl : k = b.length := by omega
    rw [show like2 a b i b.length = toI (likeM b (a.getD i mk0)) from rfl]
    have h143 := z143 r a b (a.getD i mk0) hr ha hb2 (runE a i - i) i ([], 0) ([], 0) (by omega) (fun j h1 h2 => r3 j h1 (by omega)) ⟨by simp, by simp, by simp⟩ (by simp)
    have hml := mtch_len (r := r) (a := a) (b := b) (runE a i - i) i ([], 0) ([], 0) (runE a i - i) (by simp) (by simp)
    have hnext := mtPre_step p1 hi
    have hst : startM a (runE a i) := fun h => run_next hinc hi h
    have hrl := rangeI_len i (runE a i - i)
    have hlast : (rangeI i (runE a i - i)).getD (((rangeI i (runE a i - i)).length : Int) - 1).toNat 0 = ((runE a i - 1 : Nat) : Int) := by
      rw [hrl, show (((runE a i - i : Nat) : Int) - 1).toNat = runE a i - i - 1 by omega, rangeI_last i _ (by omega)]
      congr 1; omega
    repeat' (first
      | (refine CallX.freeze _ _ _ _ 10 3 1 _ _ rfl rfl ?_; refine CallX.freeze _ _ _ _ 11 3 1 _ _ rfl rfl ?_; refine CallX.of h143 [(1000006, 16)] rfl ⟨SV.le_refl _, SV.le_refl _, SV.le_refl _, SV.le_refl _, SV.le_refl _, SV.le_agg ⟨SV.le_nilS, SV.le_refl _, trivial⟩, SV.le_refl _, trivial⟩ ⟨Res.le_cellsL ⟨SV.le_nilS, SV.le_refl _, trivial⟩, trivial⟩ rfl rfl ?_; rintro x rout ⟨rfl, rfl⟩; refine ⟨rfl, ?_⟩; conv => whnf)
      | (refine br_intro (fun hb => ?_) (fun hb => ?_) <;> (try simp only [decide_eq_true_eq, decide_eq_false_iff_not, Bool.not_eq_true', Bool.not_eq_false', Bool.and_eq_true, Bool.or_eq_true, beq_iff_eq, not_and, Int.not_le, Int.not_lt, Int.toNat_natCast, beq_eq_false_iff_ne, ne_eq, eq_self, not_true_eq_false, not_false_eq_true] at hb) <;> (conv => whnf))
      | omega
      | (refine And.intro ?_ ?_; ((try dsimp only); first | omega | (refine ⟨by omega, by omega, Int.le_trans (Int.mul_le_mul_of_nonneg_right (Int.ofNat_le.2 (Nat.le_of_ble_eq_true (rfl : Nat.ble _ 1024 = true))) (by omega)) (by omega), by omega⟩) | (refine Nat.le_trans (Nat.mul_le_mul_left _ (Nat.le_of_ble_eq_true (rfl : Nat.ble _ 1024 = true))) ?_; omega) | (unfold inI64; omega) | (constructor <;> omega) | (simp only [inI64, List.length_cons, List.length_append, List.length_nil, List.length_set] at *; omega) | decide | (unfold inI64; decide)); conv => whnf)
      | omega | decide | assumption)
    refine ⟨(runE a i, out ++ (mtch r a b (runE a i - i) i ([], 0) ([], 0)).1), ⟨hnext, hst⟩, (show a.length - runE a i < a.length - i by omega), Entails.mk' [(3, 3), (4, 4), (7, 62), (8, 100008)] rfl rfl ⟨SV.le_refl _, SV.le_refl _, SV.le_refl _, SV.le_refl _, SV.le_refl _, trivial⟩ ⟨Res.le_refl _, Res.le_refl _, Res.le_appF, Res.le_cellsL ⟨SV.le_int (by omega), trivial⟩, trivial⟩⟩
  · have hout := mtPre_end p1 hi
    subst hout
    conv => whnf
    repeat' (first
      | (refine br_intro (fun hb => ?_) (fun hb => ?_) <;> (try simp only [decide_eq_true_eq, decide_eq_false_iff_not, Bool.not_eq_true', Bool.not_eq_false', Bool.and_eq_true, Bool.or_eq_true, beq_iff_eq, not_and, Int.not_le, Int.not_lt, Int.toNat_natCast, beq_eq_false_iff_ne, ne_eq, eq_self, not_true_eq_false, not_false_eq_true] at hb) <;> (conv => whnf))
      | omega
      | (refine And.intro ?_ ?_; ((try dsimp only); first | omega | (refine ⟨by omega, by omega, Int.le_trans (Int.mul_le_mul_of_nonneg_right (Int.ofNat_le.2 (Nat.le_of_ble_eq_true (rfl : Nat.ble _ 1024 = true))) (by omega)) (by omega), by omega⟩) | (refine Nat.le_trans (Nat.mul_le_mul_left _ (Nat.le_of_ble_eq_true (rfl : Nat.ble _ 1024 = true))) ?_; omega) | (unfold inI64; omega) | (constructor <;> omega) | (simp only [inI64, List.length_cons, List.length_append, List.length_nil, List.length_set] at *; omega) | decide | (unfold inI64; decide)); conv => whnf)
      | omega | decide | assumption)
    refine .freeze _ 7 85 2 _ _ rfl (.weak _ ?_)
    (conv => whnf)
    exact ⟨_, [], SV.le_refl _, ⟨rfl, rfl⟩, trivial⟩
end Go.Proofs.YtnkdlkgannnfhaaGreatDoor
set_option maxRecDepth 20000
namespace Go.Proofs.YtnkdlkgannnfhaaGreatDoor
open Go Go.Eng
abbrev skC (p : List Pnl) (r : Rul) (a b : List Mrk) : Res := .cells 79 [.d (pnls p), .d (.int .i64 r.near), .d (.int .i64 r.slack), .d (.int .i64 r.join), .d (.int .i64 r.part), .d (mrks a), .d (mrks b), .d (.int .i64 (twoE p r a b))]
-- MarksApart
set_option maxHeartbeats 4000000 in
theorem z6 (n : Nat) (L : Nat → Int) (hn : n ≤ maxLen) (hl : ∀ i, -2^63 ≤ L i ∧ L i < 2^63) : FSpec Tryz.prog 6 [.d (.ro 1 n fun i => [.int .i64 (L i)])] [] (fun x r => x = .d (.bool true) ∧ r = []) := by
  have hL : Rok n L := ⟨hn, hl⟩
  refine spec_of hT (C := []) Tryz.func6 rfl Tryz.call6 rfl rfl rfl ?_
  conv => whnf
  repeat' (first
    | (refine CallX.of (z46 n L hL 0 (by omega) (by omega)) [(1000000, 13)] rfl ⟨SV.le_refl _, trivial⟩ ⟨Res.le_refl _, trivial⟩ rfl rfl ?_; rintro x rout ⟨⟨p, z, m, o, q1, q2, q3, rfl⟩, ⟨c, c1, c2, rfl⟩⟩; have hp := pnOk_of q1 (by omega); have hm := mkOk_of q2 (by omega); have ho := mkOk_of q3 (by omega); refine ⟨rfl, ?_⟩; conv => whnf)
    | (refine br_intro (fun hb => ?_) (fun hb => ?_) <;> (try simp only [decide_eq_true_eq, decide_eq_false_iff_not, Bool.not_eq_true', Bool.not_eq_false', Bool.and_eq_true, Bool.or_eq_true, beq_iff_eq, not_and, Int.not_le, Int.not_lt, Int.toNat_natCast, beq_eq_false_iff_ne, ne_eq, eq_self, not_true_eq_false, not_false_eq_true] at hb) <;> (conv => whnf))
    | (refine RegX.rule (id := 11) hT rfl [] [(0, []), (1, [0]), (2, [0, 1]), (3, [0, 1]), (5, [0, 1, 2, 3]), (4, [0, 5]), (6, []), (7, [])] (by decide +kernel) ?_; conv => whnf)
    | omega
    | (refine And.intro ?_ ?_; ((try dsimp only); first | omega | (refine ⟨by omega, by omega, Int.le_trans (Int.mul_le_mul_of_nonneg_right (Int.ofNat_le.2 (Nat.le_of_ble_eq_true (rfl : Nat.ble _ 1024 = true))) (by omega)) (by omega), by omega⟩) | (refine Nat.le_trans (Nat.mul_le_mul_left _ (Nat.le_of_ble_eq_true (rfl : Nat.ble _ 1024 = true))) ?_; omega) | (unfold inI64; omega) | (constructor <;> omega) | (simp only [inI64, List.length_cons, List.length_append, List.length_nil, List.length_set] at *; omega) | decide | (unfold inI64; decide)); conv => whnf)
    | omega | decide | assumption)
  · have hz : twoE p z m o = 0 := hb
    obtain ⟨h1, h2, h3, h4⟩ := twoE_zero hz
    have h47 := z47o z m o (rulE_bd h1) (mrks_inc (onPE_bd h3).1) (onPE_mBd h3) (onPE_mBd h4)
    have hml : (mtL z m o).length ≤ 8 := by have := (mtL_ok z m o).1; have := q2.1; omega
    generalize mtL z m o = l0 at h47 hml
    have hma : mB m := onPE_mBd h3
    have hmb : mB o := onPE_mBd h4
    refine CallX.of h47 [(7, 25)] rfl ⟨SV.le_refl _, SV.le_refl _, SV.le_refl _, trivial⟩ trivial rfl rfl ?_
    rintro x rout ⟨rfl, rfl⟩
    refine ⟨rfl, ?_⟩
    conv => whnf
    repeat' (first
      | (refine CallX.of (s33 n L hL _ ?_ ?_ [0, 0, 1, 2] ?_ ?_) [(1000000, 13)] rfl ⟨SV.le_refl _, SV.le_lit rfl rfl, trivial⟩ ⟨Res.le_refl _, trivial⟩ rfl rfl ?_; rotate_right; rintro x rout ⟨⟨k, hk, rfl⟩, ⟨c, c1, c2, rfl⟩⟩; have hk2 := pkz hk; refine ⟨rfl, ?_⟩; conv => whnf)
      | (refine br_intro (fun hb => ?_) (fun hb => ?_) <;> (try simp only [decide_eq_true_eq, decide_eq_false_iff_not, Bool.not_eq_true', Bool.not_eq_false', Bool.and_eq_true, Bool.or_eq_true, beq_iff_eq, not_and, Int.not_le, Int.not_lt, Int.toNat_natCast, beq_eq_false_iff_ne, ne_eq, eq_self, not_true_eq_false, not_false_eq_true] at hb) <;> (conv => whnf))
      | (refine RegX.rule (id := 11) hT rfl [] [(0, []), (1, [0]), (2, [0, 1]), (3, [0, 1]), (5, [0, 1, 2, 3]), (4, [0, 5]), (6, []), (7, [])] (by decide +kernel) ?_; conv => whnf)
      | omega
      | (refine And.intro ?_ ?_; ((try dsimp only); first | omega | (refine ⟨by omega, by omega, Int.le_trans (Int.mul_le_mul_of_nonneg_right (Int.ofNat_le.2 (Nat.le_of_ble_eq_true (rfl : Nat.ble _ 1024 = true))) (by omega)) (by omega), by omega⟩) | (refine Nat.le_trans (Nat.mul_le_mul_left _ (Nat.le_of_ble_eq_true (rfl : Nat.ble _ 1024 = true))) ?_; omega) | (unfold inI64; omega) | (constructor <;> omega) | (simp only [inI64, List.length_cons, List.length_append, List.length_nil, List.length_set] at *; omega) | decide | (unfold inI64; decide)); conv => whnf)
      | omega | decide | assumption)
    refine LoopX.rule hT (C := []) (ι := Int × List Prg × Nat) (fun (b, l, i) => (c ≤ b ∧ b ≤ c + 4 * i ∧ (i : Int) ≤ k) ∧ l.length ≤ 8 + i)
      (fun (b, l, i) => mkSt [(3, .ptr 3 0), (4, .ptr 4 0), (5, .buf 5), (28, .d (.int .i64 k)), (29, .d (.int .i64 i))] [(3, strm n L b), (4, skC p z m o), (5, prB l)])
      (fun (_, _, i) => (k - i).toNat) (c, l0, 0) ⟨⟨by simp, by simp, by simp; omega⟩, by simp; omega⟩ ?_ ?_
    · first
        | exact Entails.mk' [(3, 13), (4, 4), (5, 25)] rfl rfl ⟨SV.le_refl _, SV.le_refl _, SV.le_refl _, SV.le_refl _, SV.le_refl _, trivial⟩ ⟨Res.le_refl _, Res.le_refl _, Res.le_refl _, trivial⟩
        | (rw [hl0]; exact (Entails.nil 5 5 85 2 (rowF prF pr0 []) rfl rfl (by decide)).trans (Entails.mk' [(3, 13), (4, 4), (5, 5)] rfl rfl ⟨SV.le_refl _, SV.le_refl _, SV.le_refl _, SV.le_refl _, SV.le_refl _, trivial⟩ ⟨Res.le_refl _, Res.le_refl _, Res.le_refl _, trivial⟩))
    rintro ⟨b, l, i⟩ ⟨⟨p1, p2, p3⟩, p4⟩
    have p3 : (i : Int) ≤ k := p3
    have p4 : l.length ≤ 8 + i := p4
    conv => whnf
    repeat' (first
      | (refine CallX.of (s33 n L hL b ?_ ?_ [0, 1, 2, -1, 9] ?_ ?_) [(1000000, 3)] rfl ⟨SV.le_refl _, SV.le_lit rfl rfl, trivial⟩ ⟨Res.le_refl _, trivial⟩ rfl rfl ?_; rotate_right; rintro x rout ⟨⟨u1, hu1, rfl⟩, ⟨c3, c4, c5, rfl⟩⟩; refine ⟨rfl, ?_⟩; conv => whnf)
      | (refine CallX.of (s33 n L hL _ ?_ ?_ [0, 1, 2, -1, 9] ?_ ?_) [(1000000, 3)] rfl ⟨SV.le_refl _, SV.le_lit rfl rfl, trivial⟩ ⟨Res.le_refl _, trivial⟩ rfl rfl ?_; rotate_right; rintro x rout ⟨⟨u2, hu2, rfl⟩, ⟨c, c1, c2, rfl⟩⟩; refine ⟨rfl, ?_⟩; conv => whnf)
      | (refine CallX.of (s84 n L hL _ ?_ ?_ _ ?_) [(1000000, 3)] rfl ⟨SV.le_refl _, SV.le_refl _, trivial⟩ ⟨Res.le_refl _, trivial⟩ rfl rfl ?_; rotate_right; rintro x rout ⟨⟨f, rfl⟩, ⟨c, c1, c2, rfl⟩⟩; refine ⟨rfl, ?_⟩; conv => whnf)
      | (refine CallX.of (s86 n L hL _ ?_ ?_ _ ?_) [(1000000, 3)] rfl ⟨SV.le_refl _, SV.le_refl _, trivial⟩ ⟨Res.le_refl _, trivial⟩ rfl rfl ?_; rotate_right; rintro x rout ⟨⟨j, hj1, hj2, hj3, rfl⟩, ⟨c, c1, c2, rfl⟩⟩; refine ⟨rfl, ?_⟩; conv => whnf)
      | (refine br_intro (fun hb => ?_) (fun hb => ?_) <;> (try simp only [decide_eq_true_eq, decide_eq_false_iff_not, Bool.not_eq_true', Bool.not_eq_false', Bool.and_eq_true, Bool.or_eq_true, beq_iff_eq, not_and, Int.not_le, Int.not_lt, Int.toNat_natCast, beq_eq_false_iff_ne, ne_eq, eq_self, not_true_eq_false, not_false_eq_true] at hb) <;> (conv => whnf))
      | (refine RegX.rule (id := 11) hT rfl [] [(0, []), (1, [0]), (2, [0, 1]), (3, [0, 1]), (5, [0, 1, 2, 3]), (4, [0, 5]), (6, []), (7, [])] (by decide +kernel) ?_; conv => whnf)
      | omega
      | (refine And.intro ?_ ?_; ((try dsimp only); first | omega | (refine ⟨by omega, by omega, Int.le_trans (Int.mul_le_mul_of_nonneg_right (Int.ofNat_le.2 (Nat.le_of_ble_eq_true (rfl : Nat.ble _ 1024 = true))) (by omega)) (by omega), by omega⟩) | (refine Nat.le_trans (Nat.mul_le_mul_left _ (Nat.le_of_ble_eq_true (rfl : Nat.ble _ 1024 = true))) ?_; omega) | (unfold inI64; omega) | (constructor <;> omega) | (simp only [inI64, List.length_cons, List.length_append, List.length_nil, List.length_set] at *; omega) | decide | (unfold inI64; decide)); conv => whnf)
      | omega | decide | assumption)
    all_goals try first
      | (refine ⟨(_, l ++ [⟨u1, u2⟩], i + 1), ?_, ?_, Entails.mk' [(3, 3), (4, 4), (5, 48)] rfl rfl ⟨SV.le_refl _, SV.le_refl _, SV.le_refl _, SV.le_refl _, SV.le_refl _, trivial⟩ ⟨Res.le_refl _, Res.le_refl _, Res.le_snocF rfl, trivial⟩⟩
         · exact ⟨⟨by omega, by omega, by omega⟩, by rw [List.length_append]; simp; omega⟩
         · show (k - ((i + 1 : Nat) : Int)).toNat < (k - (i : Int)).toNat; omega)
      | (refine ⟨(_, l.set j.toNat ⟨u1, u2⟩, i + 1), ?_, ?_, Entails.mk' [(3, 3), (4, 4), (5, 5)] rfl rfl ⟨SV.le_refl _, SV.le_refl _, SV.le_refl _, SV.le_refl _, SV.le_refl _, trivial⟩ ⟨Res.le_refl _, Res.le_refl _, Res.le_upd (f := prF) (d := pr0) (l := l) (j := j.toNat) (off := 0) (ds := [.int .i64 u1, .int .i64 u2]) (fun _ => (⟨u1, u2⟩ : Prg)) (fun _ => rfl), trivial⟩⟩
         · exact ⟨⟨by omega, by omega, by omega⟩, by rw [List.length_set]; omega⟩
         · show (k - ((i + 1 : Nat) : Int)).toNat < (k - (i : Int)).toNat; omega)
    have h50 := z50 p z m o l hp hm ho (by omega)
    have hE : apE p z m o l = prsE z m o l := by unfold apE; rw [if_neg (by omega)]
    rw [hE] at h50
    have h51 := z51 z m o l (rulE_bd h1) hma hmb (by omega)
    by_cases hq : prsE z m o l = 0
    · have h52 := z52 z m o l hma hmb (by omega) hq
      rw [hq] at h51
      rw [hq, if_pos rfl] at h50
      repeat' (first
        | (refine CallX.freeze _ _ _ _ 5 85 2 _ _ rfl rfl ?_; refine CallX.exact h50 rfl rfl ?_; rotate_right; conv => whnf)
        | (refine CallX.exact (h51) rfl rfl ?_; rotate_right; conv => whnf)
        | (refine CallX.exact (h52) rfl rfl ?_; rotate_right; conv => whnf)
        | (refine CallX.exact (s42) rfl rfl ?_; rotate_right; conv => whnf)
        | (refine br_intro (fun hb => ?_) (fun hb => ?_) <;> (try simp only [decide_eq_true_eq, decide_eq_false_iff_not, Bool.not_eq_true', Bool.not_eq_false', Bool.and_eq_true, Bool.or_eq_true, beq_iff_eq, not_and, Int.not_le, Int.not_lt, Int.toNat_natCast, beq_eq_false_iff_ne, ne_eq, eq_self, not_true_eq_false, not_false_eq_true] at hb) <;> (conv => whnf))
        | (refine RegX.rule (id := 11) hT rfl [] [(0, []), (1, [0]), (2, [0, 1]), (3, [0, 1]), (5, [0, 1, 2, 3]), (4, [0, 5]), (6, []), (7, [])] (by decide +kernel) ?_; conv => whnf)
        | omega
        | (refine And.intro ?_ ?_; ((try dsimp only); first | omega | (refine ⟨by omega, by omega, Int.le_trans (Int.mul_le_mul_of_nonneg_right (Int.ofNat_le.2 (Nat.le_of_ble_eq_true (rfl : Nat.ble _ 1024 = true))) (by omega)) (by omega), by omega⟩) | (refine Nat.le_trans (Nat.mul_le_mul_left _ (Nat.le_of_ble_eq_true (rfl : Nat.ble _ 1024 = true))) ?_; omega) | (unfold inI64; omega) | (constructor <;> omega) | (simp only [inI64, List.length_cons, List.length_append, List.length_nil, List.length_set] at *; omega) | decide | (unfold inI64; decide)); conv => whnf)
        | omega | decide | assumption)
      all_goals first
        | exact absurd hz (by assumption)
        | (refine .ret _ ?_
           conv => whnf
           refine ⟨[], ⟨?_, rfl⟩, trivial⟩
           conv => lhs; whnf
           all_goals rfl)
    · rw [if_neg hq] at h50
      generalize prsE z m o l = e at h50 h51 hq
      repeat' (first
        | (refine CallX.freeze _ _ _ _ 5 85 2 _ _ rfl rfl ?_; refine CallX.exact h50 rfl rfl ?_; rotate_right; conv => whnf)
        | (refine CallX.exact (h51) rfl rfl ?_; rotate_right; conv => whnf)
        | (refine CallX.exact (s42) rfl rfl ?_; rotate_right; conv => whnf)
        | (refine br_intro (fun hb => ?_) (fun hb => ?_) <;> (try simp only [decide_eq_true_eq, decide_eq_false_iff_not, Bool.not_eq_true', Bool.not_eq_false', Bool.and_eq_true, Bool.or_eq_true, beq_iff_eq, not_and, Int.not_le, Int.not_lt, Int.toNat_natCast, beq_eq_false_iff_ne, ne_eq, eq_self, not_true_eq_false, not_false_eq_true] at hb) <;> (conv => whnf))
        | (refine RegX.rule (id := 11) hT rfl [] [(0, []), (1, [0]), (2, [0, 1]), (3, [0, 1]), (5, [0, 1, 2, 3]), (4, [0, 5]), (6, []), (7, [])] (by decide +kernel) ?_; conv => whnf)
        | omega
        | (refine And.intro ?_ ?_; ((try dsimp only); first | omega | (refine ⟨by omega, by omega, Int.le_trans (Int.mul_le_mul_of_nonneg_right (Int.ofNat_le.2 (Nat.le_of_ble_eq_true (rfl : Nat.ble _ 1024 = true))) (by omega)) (by omega), by omega⟩) | (refine Nat.le_trans (Nat.mul_le_mul_left _ (Nat.le_of_ble_eq_true (rfl : Nat.ble _ 1024 = true))) ?_; omega) | (unfold inI64; omega) | (constructor <;> omega) | (simp only [inI64, List.length_cons, List.length_append, List.length_nil, List.length_set] at *; omega) | decide | (unfold inI64; decide)); conv => whnf)
        | omega | decide | assumption)
      all_goals first
        | exact absurd hz (by assumption)
        | (refine .ret _ ?_
           conv => whnf
           refine ⟨[], ⟨?_, rfl⟩, trivial⟩
           conv => lhs; whnf
           all_goals rfl)
  · have hz : ¬ twoE p z m o = 0 := hb
    obtain ⟨l0, hl0, hml⟩ : ∃ l0 : List Prg, l0 = [] ∧ l0.length ≤ 8 := ⟨[], rfl, by simp⟩
    repeat' (first
      | (refine CallX.of (s33 n L hL _ ?_ ?_ [0, 0, 1, 2] ?_ ?_) [(1000000, 13)] rfl ⟨SV.le_refl _, SV.le_lit rfl rfl, trivial⟩ ⟨Res.le_refl _, trivial⟩ rfl rfl ?_; rotate_right; rintro x rout ⟨⟨k, hk, rfl⟩, ⟨c, c1, c2, rfl⟩⟩; have hk2 := pkz hk; refine ⟨rfl, ?_⟩; conv => whnf)
      | (refine br_intro (fun hb => ?_) (fun hb => ?_) <;> (try simp only [decide_eq_true_eq, decide_eq_false_iff_not, Bool.not_eq_true', Bool.not_eq_false', Bool.and_eq_true, Bool.or_eq_true, beq_iff_eq, not_and, Int.not_le, Int.not_lt, Int.toNat_natCast, beq_eq_false_iff_ne, ne_eq, eq_self, not_true_eq_false, not_false_eq_true] at hb) <;> (conv => whnf))
      | (refine RegX.rule (id := 11) hT rfl [] [(0, []), (1, [0]), (2, [0, 1]), (3, [0, 1]), (5, [0, 1, 2, 3]), (4, [0, 5]), (6, []), (7, [])] (by decide +kernel) ?_; conv => whnf)
      | omega
      | (refine And.intro ?_ ?_; ((try dsimp only); first | omega | (refine ⟨by omega, by omega, Int.le_trans (Int.mul_le_mul_of_nonneg_right (Int.ofNat_le.2 (Nat.le_of_ble_eq_true (rfl : Nat.ble _ 1024 = true))) (by omega)) (by omega), by omega⟩) | (refine Nat.le_trans (Nat.mul_le_mul_left _ (Nat.le_of_ble_eq_true (rfl : Nat.ble _ 1024 = true))) ?_; omega) | (unfold inI64; omega) | (constructor <;> omega) | (simp only [inI64, List.length_cons, List.length_append, List.length_nil, List.length_set] at *; omega) | decide | (unfold inI64; decide)); conv => whnf)
      | omega | decide | assumption)
    refine LoopX.rule hT (C := []) (ι := Int × List Prg × Nat) (fun (b, l, i) => (c ≤ b ∧ b ≤ c + 4 * i ∧ (i : Int) ≤ k) ∧ l.length ≤ 8 + i)
      (fun (b, l, i) => mkSt [(3, .ptr 3 0), (4, .ptr 4 0), (5, .buf 5), (28, .d (.int .i64 k)), (29, .d (.int .i64 i))] [(3, strm n L b), (4, skC p z m o), (5, prB l)])
      (fun (_, _, i) => (k - i).toNat) (c, l0, 0) ⟨⟨by simp, by simp, by simp; omega⟩, by simp; omega⟩ ?_ ?_
    · first
        | exact Entails.mk' [(3, 13), (4, 4), (5, 25)] rfl rfl ⟨SV.le_refl _, SV.le_refl _, SV.le_refl _, SV.le_refl _, SV.le_refl _, trivial⟩ ⟨Res.le_refl _, Res.le_refl _, Res.le_refl _, trivial⟩
        | (rw [hl0]; exact (Entails.nil 5 5 85 2 (rowF prF pr0 []) rfl rfl (by decide)).trans (Entails.mk' [(3, 13), (4, 4), (5, 5)] rfl rfl ⟨SV.le_refl _, SV.le_refl _, SV.le_refl _, SV.le_refl _, SV.le_refl _, trivial⟩ ⟨Res.le_refl _, Res.le_refl _, Res.le_refl _, trivial⟩))
    rintro ⟨b, l, i⟩ ⟨⟨p1, p2, p3⟩, p4⟩
    have p3 : (i : Int) ≤ k := p3
    have p4 : l.length ≤ 8 + i := p4
    conv => whnf
    repeat' (first
      | (refine CallX.of (s33 n L hL b ?_ ?_ [0, 1, 2, -1, 9] ?_ ?_) [(1000000, 3)] rfl ⟨SV.le_refl _, SV.le_lit rfl rfl, trivial⟩ ⟨Res.le_refl _, trivial⟩ rfl rfl ?_; rotate_right; rintro x rout ⟨⟨u1, hu1, rfl⟩, ⟨c3, c4, c5, rfl⟩⟩; refine ⟨rfl, ?_⟩; conv => whnf)
      | (refine CallX.of (s33 n L hL _ ?_ ?_ [0, 1, 2, -1, 9] ?_ ?_) [(1000000, 3)] rfl ⟨SV.le_refl _, SV.le_lit rfl rfl, trivial⟩ ⟨Res.le_refl _, trivial⟩ rfl rfl ?_; rotate_right; rintro x rout ⟨⟨u2, hu2, rfl⟩, ⟨c, c1, c2, rfl⟩⟩; refine ⟨rfl, ?_⟩; conv => whnf)
      | (refine CallX.of (s84 n L hL _ ?_ ?_ _ ?_) [(1000000, 3)] rfl ⟨SV.le_refl _, SV.le_refl _, trivial⟩ ⟨Res.le_refl _, trivial⟩ rfl rfl ?_; rotate_right; rintro x rout ⟨⟨f, rfl⟩, ⟨c, c1, c2, rfl⟩⟩; refine ⟨rfl, ?_⟩; conv => whnf)
      | (refine CallX.of (s86 n L hL _ ?_ ?_ _ ?_) [(1000000, 3)] rfl ⟨SV.le_refl _, SV.le_refl _, trivial⟩ ⟨Res.le_refl _, trivial⟩ rfl rfl ?_; rotate_right; rintro x rout ⟨⟨j, hj1, hj2, hj3, rfl⟩, ⟨c, c1, c2, rfl⟩⟩; refine ⟨rfl, ?_⟩; conv => whnf)
      | (refine br_intro (fun hb => ?_) (fun hb => ?_) <;> (try simp only [decide_eq_true_eq, decide_eq_false_iff_not, Bool.not_eq_true', Bool.not_eq_false', Bool.and_eq_true, Bool.or_eq_true, beq_iff_eq, not_and, Int.not_le, Int.not_lt, Int.toNat_natCast, beq_eq_false_iff_ne, ne_eq, eq_self, not_true_eq_false, not_false_eq_true] at hb) <;> (conv => whnf))
      | (refine RegX.rule (id := 11) hT rfl [] [(0, []), (1, [0]), (2, [0, 1]), (3, [0, 1]), (5, [0, 1, 2, 3]), (4, [0, 5]), (6, []), (7, [])] (by decide +kernel) ?_; conv => whnf)
      | omega
      | (refine And.intro ?_ ?_; ((try dsimp only); first | omega | (refine ⟨by omega, by omega, Int.le_trans (Int.mul_le_mul_of_nonneg_right (Int.ofNat_le.2 (Nat.le_of_ble_eq_true (rfl : Nat.ble _ 1024 = true))) (by omega)) (by omega), by omega⟩) | (refine Nat.le_trans (Nat.mul_le_mul_left _ (Nat.le_of_ble_eq_true (rfl : Nat.ble _ 1024 = true))) ?_; omega) | (unfold inI64; omega) | (constructor <;> omega) | (simp only [inI64, List.length_cons, List.length_append, List.length_nil, List.length_set] at *; omega) | decide | (unfold inI64; decide)); conv => whnf)
      | omega | decide | assumption)
    all_goals try first
      | (refine ⟨(_, l ++ [⟨u1, u2⟩], i + 1), ?_, ?_, Entails.mk' [(3, 3), (4, 4), (5, 48)] rfl rfl ⟨SV.le_refl _, SV.le_refl _, SV.le_refl _, SV.le_refl _, SV.le_refl _, trivial⟩ ⟨Res.le_refl _, Res.le_refl _, Res.le_snocF rfl, trivial⟩⟩
         · exact ⟨⟨by omega, by omega, by omega⟩, by rw [List.length_append]; simp; omega⟩
         · show (k - ((i + 1 : Nat) : Int)).toNat < (k - (i : Int)).toNat; omega)
      | (refine ⟨(_, l.set j.toNat ⟨u1, u2⟩, i + 1), ?_, ?_, Entails.mk' [(3, 3), (4, 4), (5, 5)] rfl rfl ⟨SV.le_refl _, SV.le_refl _, SV.le_refl _, SV.le_refl _, SV.le_refl _, trivial⟩ ⟨Res.le_refl _, Res.le_refl _, Res.le_upd (f := prF) (d := pr0) (l := l) (j := j.toNat) (off := 0) (ds := [.int .i64 u1, .int .i64 u2]) (fun _ => (⟨u1, u2⟩ : Prg)) (fun _ => rfl), trivial⟩⟩
         · exact ⟨⟨by omega, by omega, by omega⟩, by rw [List.length_set]; omega⟩
         · show (k - ((i + 1 : Nat) : Int)).toNat < (k - (i : Int)).toNat; omega)
    have h50 := z50 p z m o l hp hm ho (by omega)
    have hE : apE p z m o l = twoE p z m o := by unfold apE; rw [if_pos hz]
    rw [hE, if_neg hz] at h50
    repeat' (first
      | (refine CallX.freeze _ _ _ _ 5 85 2 _ _ rfl rfl ?_; refine CallX.exact h50 rfl rfl ?_; rotate_right; conv => whnf)
      | (refine CallX.exact (s42) rfl rfl ?_; rotate_right; conv => whnf)
      | (refine br_intro (fun hb => ?_) (fun hb => ?_) <;> (try simp only [decide_eq_true_eq, decide_eq_false_iff_not, Bool.not_eq_true', Bool.not_eq_false', Bool.and_eq_true, Bool.or_eq_true, beq_iff_eq, not_and, Int.not_le, Int.not_lt, Int.toNat_natCast, beq_eq_false_iff_ne, ne_eq, eq_self, not_true_eq_false, not_false_eq_true] at hb) <;> (conv => whnf))
      | (refine RegX.rule (id := 11) hT rfl [] [(0, []), (1, [0]), (2, [0, 1]), (3, [0, 1]), (5, [0, 1, 2, 3]), (4, [0, 5]), (6, []), (7, [])] (by decide +kernel) ?_; conv => whnf)
      | omega
      | (refine And.intro ?_ ?_; ((try dsimp only); first | omega | (refine ⟨by omega, by omega, Int.le_trans (Int.mul_le_mul_of_nonneg_right (Int.ofNat_le.2 (Nat.le_of_ble_eq_true (rfl : Nat.ble _ 1024 = true))) (by omega)) (by omega), by omega⟩) | (refine Nat.le_trans (Nat.mul_le_mul_left _ (Nat.le_of_ble_eq_true (rfl : Nat.ble _ 1024 = true))) ?_; omega) | (unfold inI64; omega) | (constructor <;> omega) | (simp only [inI64, List.length_cons, List.length_append, List.length_nil, List.length_set] at *; omega) | decide | (unfold inI64; decide)); conv => whnf)
      | omega | decide | assumption)
    all_goals first
      | exact absurd (by assumption) hz
      | (refine .ret _ ?_
         conv => whnf
         refine ⟨[], ⟨?_, rfl⟩, trivial⟩
         conv => lhs; whnf
         all_goals rfl)
end Go.Proofs.YtnkdlkgannnfhaaGreatDoor
