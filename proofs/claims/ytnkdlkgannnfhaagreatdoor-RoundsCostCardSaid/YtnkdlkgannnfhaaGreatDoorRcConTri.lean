/- RoundsCost is proved: for every input the law returns true, and its argument reads afterwards as it read before. Conditions: those of the given row alone. -/
import Derived.Test.YtnkdlkgannnfhaaGreatDoorRcConTwo
import Derived.Test.YtnkdlkgannnfhaaGreatDoorRcConOne
set_option linter.unusedVariables false
set_option linter.unusedSimpArgs false
set_option maxRecDepth 20000
namespace Go.Proofs.YtnkdlkgannnfhaaGreatDoor
open Go Go.Eng
abbrev mvB (l : List Mov) : Res := seqB 66 3 mvF mv0 l
-- insertion sort: the same elements
theorem z249 (g : FuncId) (cmp : Mov → Mov → Int) (l : List Mov) (hl : l.length ≤ 2^40)
    (hcmp : ∀ p q, p ∈ l → q ∈ l → FSpec Tryz.prog g [.agg ((mvF p).map .d), .agg ((mvF q).map .d)] [] (fun y r => y = .d (.int .i64 (cmp p q)) ∧ r = [])) :
    FSpec Tryz.prog 249 [.buf 1000001, .d (.int .i64 0), .d (.int .i64 l.length), .fn g []] [(1000001, seqB 66 3 mvF mv0 l)]
      (fun y r => y = .tup [] ∧ ∃ c, sameL l c ∧ r = [(1000001, seqB 66 3 mvF mv0 c)]) := by
  refine spec_of hT (C := []) Tryz.func249 rfl Tryz.call249 rfl rfl rfl ?_
  conv => whnf
  repeat' (first
    | (refine br_intro (fun hb => ?_) (fun hb => ?_) <;> (try simp only [decide_eq_true_eq, decide_eq_false_iff_not, Bool.not_eq_true', Bool.not_eq_false', Bool.and_eq_true, Bool.or_eq_true, beq_iff_eq, not_and, Int.not_le, Int.not_lt, Int.toNat_natCast, beq_eq_false_iff_ne, ne_eq, eq_self, not_true_eq_false, not_false_eq_true] at hb) <;> (conv => whnf))
    | (refine RegX.rule (id := 4) hT rfl [] [(0, []), (1, [0]), (2, []), (3, []), (4, []), (5, [4]), (6, [4, 5]), (7, [4]), (8, [4]), (9, [4, 5, 6, 7, 8]), (10, [4, 5, 6, 7, 8, 9]), (11, [4, 5, 6, 7, 8, 9]), (12, [4, 5, 6, 7, 8]), (13, [4, 5, 6, 7, 8]), (14, []), (15, []), (16, [])] (by decide +kernel) ?_; conv => whnf)
    | (refine RegX.rule (id := 6) hT rfl [] [(0, []), (1, [0]), (2, [0, 1]), (3, [0, 1, 2]), (4, [0, 1, 2]), (5, [0, 1, 2, 3, 4]), (6, [0, 1, 2, 3, 4, 5]), (7, [0, 1, 2, 3, 4, 5]), (8, [0, 1, 2, 3, 4]), (9, [0, 1, 2, 3, 4]), (10, [0, 1, 2, 3, 4, 5, 6, 7, 8, 9]), (11, [0, 1, 2, 3, 4, 5, 6, 7, 8, 9, 10]), (12, [0, 1, 2, 3, 4, 5, 6, 7, 8, 9]), (13, [0, 1, 2, 3, 4, 5, 6, 7, 8, 9]), (14, [2, 3, 4]), (15, [2, 3, 4]), (16, []), (17, [])] (by decide +kernel) ?_; conv => whnf)
    | omega
    | (refine And.intro ?_ ?_; ((try dsimp only); first | omega | (refine ⟨by omega, by omega, Int.le_trans (Int.mul_le_mul_of_nonneg_right (Int.ofNat_le.2 (Nat.le_of_ble_eq_true (rfl : Nat.ble _ 1024 = true))) (by omega)) (by omega), by omega⟩) | (refine Nat.le_trans (Nat.mul_le_mul_left _ (Nat.le_of_ble_eq_true (rfl : Nat.ble _ 1024 = true))) ?_; omega) | (unfold inI64; omega) | (constructor <;> omega) | (simp only [inI64, List.length_cons, List.length_append, List.length_nil, List.length_set] at *; omega) | decide | (unfold inI64; decide)); conv => whnf)
    | omega | decide | assumption)
  refine LoopX.rule hT (C := []) (ι := Nat × List Mov) (fun (i, c) => 1 ≤ i ∧ (i ≤ l.length ∨ i = 1) ∧ sameL l c)
    (fun (i, c) => mkSt [(0, .buf 1000001), (1, .d (.int .i64 0)), (2, .d (.int .i64 l.length)), (3, .fn g []), (8, .d (.int .i64 i))] [(1000001, seqB 66 3 mvF mv0 c)])
    (fun (i, _) => l.length - i) (1, l) ⟨by simp, by simp, rfl, fun x h => h⟩ (by refine Entails.mk' [(1000001, 1000001)] rfl rfl ?_ ?_ <;> repeat' (first | exact True.intro | exact SV.le_refl _ | exact Res.le_refl _ | exact SV.le_int (by omega) | exact SV.le_any _ | refine And.intro ?_ ?_)) ?_
  rintro ⟨i, c⟩ ⟨p1, p2, p3⟩
  have hc0 := p3.1
  conv => whnf
  repeat' (first
    | (refine br_intro (fun hb => ?_) (fun hb => ?_) <;> (try simp only [decide_eq_true_eq, decide_eq_false_iff_not, Bool.not_eq_true', Bool.not_eq_false', Bool.and_eq_true, Bool.or_eq_true, beq_iff_eq, not_and, Int.not_le, Int.not_lt, Int.toNat_natCast, beq_eq_false_iff_ne, ne_eq, eq_self, not_true_eq_false, not_false_eq_true] at hb) <;> (conv => whnf))
    | (refine RegX.rule (id := 4) hT rfl [] [(0, []), (1, [0]), (2, []), (3, []), (4, []), (5, [4]), (6, [4, 5]), (7, [4]), (8, [4]), (9, [4, 5, 6, 7, 8]), (10, [4, 5, 6, 7, 8, 9]), (11, [4, 5, 6, 7, 8, 9]), (12, [4, 5, 6, 7, 8]), (13, [4, 5, 6, 7, 8]), (14, []), (15, []), (16, [])] (by decide +kernel) ?_; conv => whnf)
    | (refine RegX.rule (id := 6) hT rfl [] [(0, []), (1, [0]), (2, [0, 1]), (3, [0, 1, 2]), (4, [0, 1, 2]), (5, [0, 1, 2, 3, 4]), (6, [0, 1, 2, 3, 4, 5]), (7, [0, 1, 2, 3, 4, 5]), (8, [0, 1, 2, 3, 4]), (9, [0, 1, 2, 3, 4]), (10, [0, 1, 2, 3, 4, 5, 6, 7, 8, 9]), (11, [0, 1, 2, 3, 4, 5, 6, 7, 8, 9, 10]), (12, [0, 1, 2, 3, 4, 5, 6, 7, 8, 9]), (13, [0, 1, 2, 3, 4, 5, 6, 7, 8, 9]), (14, [2, 3, 4]), (15, [2, 3, 4]), (16, []), (17, [])] (by decide +kernel) ?_; conv => whnf)
    | omega
    | (refine And.intro ?_ ?_; ((try dsimp only); first | omega | (refine ⟨by omega, by omega, Int.le_trans (Int.mul_le_mul_of_nonneg_right (Int.ofNat_le.2 (Nat.le_of_ble_eq_true (rfl : Nat.ble _ 1024 = true))) (by omega)) (by omega), by omega⟩) | (refine Nat.le_trans (Nat.mul_le_mul_left _ (Nat.le_of_ble_eq_true (rfl : Nat.ble _ 1024 = true))) ?_; omega) | (unfold inI64; omega) | (constructor <;> omega) | (simp only [inI64, List.length_cons, List.length_append, List.length_nil, List.length_set] at *; omega) | decide | (unfold inI64; decide)); conv => whnf)
    | omega | decide | assumption)
  · refine LoopX.rule hT (C := []) (ι := Nat × List Mov) (fun (j, c) => j ≤ i ∧ sameL l c)
      (fun (j, c) => mkSt [(0, .buf 1000001), (1, .d (.int .i64 0)), (2, .d (.int .i64 l.length)), (3, .fn g []), (8, .d (.int .i64 i)), (9, .d (.int .i64 j))] [(1000001, seqB 66 3 mvF mv0 c)])
      (fun (j, _) => j) (i, c) ⟨Nat.le_refl _, p3⟩ (by refine Entails.mk' [(1000001, 1000001)] rfl rfl ?_ ?_ <;> repeat' (first | exact True.intro | exact SV.le_refl _ | exact Res.le_refl _ | exact SV.le_int (by omega) | exact SV.le_any _ | refine And.intro ?_ ?_)) ?_
    rintro ⟨j, b⟩ ⟨q1, q3⟩
    have hb0 := q3.1
    conv => whnf
    repeat' (first
      | (refine br_intro (fun hb => ?_) (fun hb => ?_) <;> (try simp only [decide_eq_true_eq, decide_eq_false_iff_not, Bool.not_eq_true', Bool.not_eq_false', Bool.and_eq_true, Bool.or_eq_true, beq_iff_eq, not_and, Int.not_le, Int.not_lt, Int.toNat_natCast, beq_eq_false_iff_ne, ne_eq, eq_self, not_true_eq_false, not_false_eq_true] at hb) <;> (conv => whnf))
      | (refine RegX.rule (id := 4) hT rfl [] [(0, []), (1, [0]), (2, []), (3, []), (4, []), (5, [4]), (6, [4, 5]), (7, [4]), (8, [4]), (9, [4, 5, 6, 7, 8]), (10, [4, 5, 6, 7, 8, 9]), (11, [4, 5, 6, 7, 8, 9]), (12, [4, 5, 6, 7, 8]), (13, [4, 5, 6, 7, 8]), (14, []), (15, []), (16, [])] (by decide +kernel) ?_; conv => whnf)
      | (refine RegX.rule (id := 6) hT rfl [] [(0, []), (1, [0]), (2, [0, 1]), (3, [0, 1, 2]), (4, [0, 1, 2]), (5, [0, 1, 2, 3, 4]), (6, [0, 1, 2, 3, 4, 5]), (7, [0, 1, 2, 3, 4, 5]), (8, [0, 1, 2, 3, 4]), (9, [0, 1, 2, 3, 4]), (10, [0, 1, 2, 3, 4, 5, 6, 7, 8, 9]), (11, [0, 1, 2, 3, 4, 5, 6, 7, 8, 9, 10]), (12, [0, 1, 2, 3, 4, 5, 6, 7, 8, 9]), (13, [0, 1, 2, 3, 4, 5, 6, 7, 8, 9]), (14, [2, 3, 4]), (15, [2, 3, 4]), (16, []), (17, [])] (by decide +kernel) ?_; conv => whnf)
      | omega
      | (refine And.intro ?_ ?_; ((try dsimp only); first | omega | (refine ⟨by omega, by omega, Int.le_trans (Int.mul_le_mul_of_nonneg_right (Int.ofNat_le.2 (Nat.le_of_ble_eq_true (rfl : Nat.ble _ 1024 = true))) (by omega)) (by omega), by omega⟩) | (refine Nat.le_trans (Nat.mul_le_mul_left _ (Nat.le_of_ble_eq_true (rfl : Nat.ble _ 1024 = true))) ?_; omega) | (unfold inI64; omega) | (constructor <;> omega) | (simp only [inI64, List.length_cons, List.length_append, List.length_nil, List.length_set] at *; omega) | decide | (unfold inI64; decide)); conv => whnf)
      | omega | decide | assumption)
    · refine CallX.of (hcmp (b.getD (j : Int).toNat mv0) (b.getD ((j : Int) - 1).toNat mv0) (q3.2 _ (getD_mem (by omega))) (q3.2 _ (getD_mem (by omega)))) [] rfl ⟨SV.le_refl _, SV.le_refl _, trivial⟩ trivial rfl rfl ?_
      rintro x rout ⟨rfl, rfl⟩
      refine ⟨rfl, ?_⟩
      conv => whnf
      repeat' (first
        | (refine br_intro (fun hb => ?_) (fun hb => ?_) <;> (try simp only [decide_eq_true_eq, decide_eq_false_iff_not, Bool.not_eq_true', Bool.not_eq_false', Bool.and_eq_true, Bool.or_eq_true, beq_iff_eq, not_and, Int.not_le, Int.not_lt, Int.toNat_natCast, beq_eq_false_iff_ne, ne_eq, eq_self, not_true_eq_false, not_false_eq_true] at hb) <;> (conv => whnf))
        | (refine RegX.rule (id := 4) hT rfl [] [(0, []), (1, [0]), (2, []), (3, []), (4, []), (5, [4]), (6, [4, 5]), (7, [4]), (8, [4]), (9, [4, 5, 6, 7, 8]), (10, [4, 5, 6, 7, 8, 9]), (11, [4, 5, 6, 7, 8, 9]), (12, [4, 5, 6, 7, 8]), (13, [4, 5, 6, 7, 8]), (14, []), (15, []), (16, [])] (by decide +kernel) ?_; conv => whnf)
        | (refine RegX.rule (id := 6) hT rfl [] [(0, []), (1, [0]), (2, [0, 1]), (3, [0, 1, 2]), (4, [0, 1, 2]), (5, [0, 1, 2, 3, 4]), (6, [0, 1, 2, 3, 4, 5]), (7, [0, 1, 2, 3, 4, 5]), (8, [0, 1, 2, 3, 4]), (9, [0, 1, 2, 3, 4]), (10, [0, 1, 2, 3, 4, 5, 6, 7, 8, 9]), (11, [0, 1, 2, 3, 4, 5, 6, 7, 8, 9, 10]), (12, [0, 1, 2, 3, 4, 5, 6, 7, 8, 9]), (13, [0, 1, 2, 3, 4, 5, 6, 7, 8, 9]), (14, [2, 3, 4]), (15, [2, 3, 4]), (16, []), (17, [])] (by decide +kernel) ?_; conv => whnf)
        | omega
        | (refine And.intro ?_ ?_; ((try dsimp only); first | omega | (refine ⟨by omega, by omega, Int.le_trans (Int.mul_le_mul_of_nonneg_right (Int.ofNat_le.2 (Nat.le_of_ble_eq_true (rfl : Nat.ble _ 1024 = true))) (by omega)) (by omega), by omega⟩) | (refine Nat.le_trans (Nat.mul_le_mul_left _ (Nat.le_of_ble_eq_true (rfl : Nat.ble _ 1024 = true))) ?_; omega) | (unfold inI64; omega) | (constructor <;> omega) | (simp only [inI64, List.length_cons, List.length_append, List.length_nil, List.length_set] at *; omega) | decide | (unfold inI64; decide)); conv => whnf)
        | omega | decide | assumption)
      · refine ⟨(j - 1, _), ⟨by omega, sameL_set (sameL_set q3 (q3.2 _ (getD_mem (i := ((j : Int) - 1).toNat) (x := mv0) (by omega)))) (q3.2 _ (getD_mem (i := (j : Int).toNat) (x := mv0) (by omega)))⟩, by show j - 1 < j; omega, Entails.mk' [(1000001, 1000001)] rfl rfl ⟨SV.le_refl _, SV.le_refl _, SV.le_refl _, SV.le_refl _, SV.le_refl _, SV.le_int (by omega), trivial⟩ ⟨Res.le_put2 (fun _ => rfl) (fun _ => rfl), trivial⟩⟩
      · exact ⟨(i + 1, b), ⟨by omega, by omega, q3⟩, by show l.length - (i + 1) < l.length - i; omega, (by refine Entails.mk' [(1000001, 1000001)] rfl rfl ?_ ?_ <;> repeat' (first | exact True.intro | exact SV.le_refl _ | exact Res.le_refl _ | exact SV.le_int (by omega) | exact SV.le_any _ | refine And.intro ?_ ?_))⟩
    · exact ⟨(i + 1, b), ⟨by omega, by omega, q3⟩, by show l.length - (i + 1) < l.length - i; omega, (by refine Entails.mk' [(1000001, 1000001)] rfl rfl ?_ ?_ <;> repeat' (first | exact True.intro | exact SV.le_refl _ | exact Res.le_refl _ | exact SV.le_int (by omega) | exact SV.le_any _ | refine And.intro ?_ ?_))⟩
  · refine .ret _ ?_
    conv => whnf
    exact ⟨_, ⟨rfl, c, p3, rfl⟩, Res.le_refl _, trivial⟩
-- slices.SortFunc of at most twelve: the same elements
theorem z200 (g : FuncId) (cmp : Mov → Mov → Int) (l : List Mov) (hl : l.length ≤ 12) (lim : Int)
    (hcmp : ∀ p q, p ∈ l → q ∈ l → FSpec Tryz.prog g [.agg ((mvF p).map .d), .agg ((mvF q).map .d)] [] (fun y r => y = .d (.int .i64 (cmp p q)) ∧ r = [])) :
    FSpec Tryz.prog 200 [.buf 1000001, .d (.int .i64 0), .d (.int .i64 l.length), .d (.int .i64 lim), .fn g []] [(1000001, seqB 66 3 mvF mv0 l)]
      (fun y r => y = .tup [] ∧ ∃ c, sameL l c ∧ r = [(1000001, seqB 66 3 mvF mv0 c)]) := by
  refine spec_of hT (C := []) Tryz.func200 rfl Tryz.call200 rfl rfl rfl ?_
  conv => whnf
  refine LoopX.unroll hT (C := []) (fun _ _ h => h) (fun _ h => h) ?_
  conv => whnf
  repeat' (first
    | (refine br_intro (fun hb => ?_) (fun hb => ?_) <;> (try simp only [decide_eq_true_eq, decide_eq_false_iff_not, Bool.not_eq_true', Bool.not_eq_false', Bool.and_eq_true, Bool.or_eq_true, beq_iff_eq, not_and, Int.not_le, Int.not_lt, Int.toNat_natCast, beq_eq_false_iff_ne, ne_eq, eq_self, not_true_eq_false, not_false_eq_true] at hb) <;> (conv => whnf))
    | (refine RegX.rule (id := 17) hT rfl [] [(0, []), (1, []), (2, []), (3, []), (4, [3]), (5, [3, 4]), (6, [3, 4]), (7, [3]), (8, [3]), (9, [3, 4, 5, 6, 7, 8]), (10, [3, 4, 5, 6, 7, 8, 9]), (11, [3, 4, 5, 6, 7, 8]), (12, [3, 4, 5, 6, 7, 8]), (13, []), (14, []), (15, []), (16, [])] (by decide +kernel) ?_; conv => whnf)
    | omega
    | (refine And.intro ?_ ?_; ((try dsimp only); first | omega | (refine ⟨by omega, by omega, Int.le_trans (Int.mul_le_mul_of_nonneg_right (Int.ofNat_le.2 (Nat.le_of_ble_eq_true (rfl : Nat.ble _ 1024 = true))) (by omega)) (by omega), by omega⟩) | (refine Nat.le_trans (Nat.mul_le_mul_left _ (Nat.le_of_ble_eq_true (rfl : Nat.ble _ 1024 = true))) ?_; omega) | (unfold inI64; omega) | (constructor <;> omega) | (simp only [inI64, List.length_cons, List.length_append, List.length_nil, List.length_set] at *; omega) | decide | (unfold inI64; decide)); conv => whnf)
    | omega | decide | assumption)
  refine CallX.of (z249 g cmp l (by omega) hcmp) [(1000001, 1000001)] rfl ⟨SV.le_refl _, SV.le_refl _, SV.le_refl _, SV.le_refl _, trivial⟩ ⟨Res.le_refl _, trivial⟩ rfl rfl ?_
  rintro x rout ⟨rfl, c, hc, rfl⟩
  refine ⟨rfl, ?_⟩
  conv => whnf
  refine .ret _ ?_
  conv => whnf
  exact ⟨_, ⟨rfl, c, hc, rfl⟩, Res.le_refl _, trivial⟩
theorem z99 (g : FuncId) (cmp : Mov → Mov → Int) (l : List Mov) (hl : l.length ≤ 12)
    (hcmp : ∀ p q, p ∈ l → q ∈ l → FSpec Tryz.prog g [.agg ((mvF p).map .d), .agg ((mvF q).map .d)] [] (fun y r => y = .d (.int .i64 (cmp p q)) ∧ r = [])) :
    FSpec Tryz.prog 99 [.buf 1000001, .fn g []] [(1000001, seqB 66 3 mvF mv0 l)]
      (fun y r => y = .tup [] ∧ ∃ c, sameL l c ∧ r = [(1000001, seqB 66 3 mvF mv0 c)]) := by
  refine spec_of hT (C := []) Tryz.func99 rfl Tryz.call99 rfl rfl rfl ?_
  conv => whnf
  repeat' (first
    | (refine br_intro (fun hb => ?_) (fun hb => ?_) <;> (try simp only [decide_eq_true_eq, decide_eq_false_iff_not, Bool.not_eq_true', Bool.not_eq_false', Bool.and_eq_true, Bool.or_eq_true, beq_iff_eq, not_and, Int.not_le, Int.not_lt, Int.toNat_natCast, beq_eq_false_iff_ne, ne_eq, eq_self, not_true_eq_false, not_false_eq_true] at hb) <;> (conv => whnf))
    | omega
    | (refine And.intro ?_ ?_; ((try dsimp only); first | omega | (refine ⟨by omega, by omega, Int.le_trans (Int.mul_le_mul_of_nonneg_right (Int.ofNat_le.2 (Nat.le_of_ble_eq_true (rfl : Nat.ble _ 1024 = true))) (by omega)) (by omega), by omega⟩) | (refine Nat.le_trans (Nat.mul_le_mul_left _ (Nat.le_of_ble_eq_true (rfl : Nat.ble _ 1024 = true))) ?_; omega) | (unfold inI64; omega) | (constructor <;> omega) | (simp only [inI64, List.length_cons, List.length_append, List.length_nil, List.length_set] at *; omega) | decide | (unfold inI64; decide)); conv => whnf)
    | omega | decide | assumption)
  refine CallX.of (sBitsLen l.length hl) [] rfl ⟨SV.le_refl _, trivial⟩ trivial rfl rfl ?_
  rintro x rout ⟨⟨lim, rfl⟩, rfl⟩
  refine ⟨rfl, ?_⟩
  conv => whnf
  repeat' (first
    | (refine br_intro (fun hb => ?_) (fun hb => ?_) <;> (try simp only [decide_eq_true_eq, decide_eq_false_iff_not, Bool.not_eq_true', Bool.not_eq_false', Bool.and_eq_true, Bool.or_eq_true, beq_iff_eq, not_and, Int.not_le, Int.not_lt, Int.toNat_natCast, beq_eq_false_iff_ne, ne_eq, eq_self, not_true_eq_false, not_false_eq_true] at hb) <;> (conv => whnf))
    | omega
    | (refine And.intro ?_ ?_; ((try dsimp only); first | omega | (refine ⟨by omega, by omega, Int.le_trans (Int.mul_le_mul_of_nonneg_right (Int.ofNat_le.2 (Nat.le_of_ble_eq_true (rfl : Nat.ble _ 1024 = true))) (by omega)) (by omega), by omega⟩) | (refine Nat.le_trans (Nat.mul_le_mul_left _ (Nat.le_of_ble_eq_true (rfl : Nat.ble _ 1024 = true))) ?_; omega) | (unfold inI64; omega) | (constructor <;> omega) | (simp only [inI64, List.length_cons, List.length_append, List.length_nil, List.length_set] at *; omega) | decide | (unfold inI64; decide)); conv => whnf)
    | omega | decide | assumption)
  refine CallX.of (z200 g cmp l hl lim hcmp) [(1000001, 1000001)] rfl ⟨SV.le_refl _, SV.le_refl _, SV.le_refl _, SV.le_refl _, SV.le_refl _, trivial⟩ ⟨Res.le_refl _, trivial⟩ rfl rfl ?_
  rintro x rout ⟨rfl, c, hc, rfl⟩
  refine ⟨rfl, ?_⟩
  conv => whnf
  refine .ret _ ?_
  conv => whnf
  exact ⟨_, ⟨rfl, c, hc, rfl⟩, Res.le_refl _, trivial⟩
-- slices.CompactFunc of moves
theorem z102 (g : FuncId) (eq : Mov → Mov → Bool) (l : List Mov) (hl : l.length ≤ 2^20)
    (heq : ∀ p q, p ∈ l → q ∈ l → FSpec Tryz.prog g [.agg ((mvF p).map .d), .agg ((mvF q).map .d)] [] (fun y r => y = .d (.bool (eq p q)) ∧ r = [])) :
    FSpec Tryz.prog 102 [.buf 1000001, .fn g []] [(1000001, seqB 66 3 mvF mv0 l)]
      (fun y r => ∃ c, subL l c ∧ ∃ d, (d = 1000001 ∨ d = 64) ∧ y = .buf d ∧ r = [(d, seqB 66 3 mvF mv0 c)]) := by
  refine spec_of hT (C := []) Tryz.func102 rfl Tryz.call102 rfl rfl rfl ?_
  conv => whnf
  repeat' (first
    | (refine br_intro (fun hb => ?_) (fun hb => ?_) <;> (try simp only [decide_eq_true_eq, decide_eq_false_iff_not, Bool.not_eq_true', Bool.not_eq_false', Bool.and_eq_true, Bool.or_eq_true, beq_iff_eq, not_and, Int.not_le, Int.not_lt, Int.toNat_natCast, beq_eq_false_iff_ne, ne_eq, eq_self, not_true_eq_false, not_false_eq_true] at hb) <;> (conv => whnf))
    | (refine RegX.rule (id := 6) hT rfl [] [(0, []), (1, [0]), (2, [0, 1]), (3, [0]), (4, [0]), (5, [0, 1, 2, 3, 4]), (6, [0, 1, 2, 3, 4, 5]), (7, [0, 1, 2, 3, 4, 5]), (8, [0, 1, 2, 3, 4]), (9, [0, 1, 2, 3, 4]), (10, [])] (by decide +kernel) ?_; conv => whnf)
    | (refine RegX.rule (id := 11) hT rfl [] [(0, []), (1, [0]), (2, [0, 1]), (3, [0]), (4, [0]), (5, [0, 1, 2, 3, 4]), (6, [0, 1, 2, 3, 4, 5]), (7, [0, 1, 2, 3, 4, 5]), (8, [0, 1, 2, 3, 4]), (9, [0, 1, 2, 3, 4]), (10, []), (11, [])] (by decide +kernel) ?_; conv => whnf)
    | omega
    | (refine And.intro ?_ ?_; ((try dsimp only); first | omega | (refine ⟨by omega, by omega, Int.le_trans (Int.mul_le_mul_of_nonneg_right (Int.ofNat_le.2 (Nat.le_of_ble_eq_true (rfl : Nat.ble _ 1024 = true))) (by omega)) (by omega), by omega⟩) | (refine Nat.le_trans (Nat.mul_le_mul_left _ (Nat.le_of_ble_eq_true (rfl : Nat.ble _ 1024 = true))) ?_; omega) | (unfold inI64; omega) | (constructor <;> omega) | (simp only [inI64, List.length_cons, List.length_append, List.length_nil, List.length_set] at *; omega) | decide | (unfold inI64; decide)); conv => whnf)
    | omega | decide | assumption)
  · refine .ret _ ?_
    conv => whnf
    exact ⟨_, ⟨l, ⟨Nat.le_refl _, fun x h => h⟩, 1000001, .inl rfl, rfl, rfl⟩, Res.le_refl _, trivial⟩
  refine LoopX.rule hT (C := []) (ι := Nat) (fun k => 1 ≤ k ∧ k ≤ l.length) (fun k => mkSt [(0, .buf 1000001), (1, .fn g []), (5, .d (.int .i64 k))] [(1000001, seqB 66 3 mvF mv0 l)]) (fun k => l.length - k) 1 ⟨by omega, by omega⟩ (by refine Entails.mk' [(1000001, 1000001)] rfl rfl ?_ ?_ <;> repeat' (first | exact True.intro | exact SV.le_refl _ | exact Res.le_refl _ | exact SV.le_int (by omega) | exact SV.le_any _ | refine And.intro ?_ ?_)) ?_
  rintro k ⟨p1, p2⟩
  conv => whnf
  repeat' (first
    | (refine CallX.of (heq (l.getD (k : Int).toNat mv0) (l.getD ((k : Int) - 1).toNat mv0) (getD_mem (by omega)) (getD_mem (by omega))) [] rfl ⟨SV.le_refl _, SV.le_refl _, trivial⟩ trivial rfl rfl ?_; rintro x rout ⟨rfl, rfl⟩; refine ⟨rfl, ?_⟩; conv => whnf)
    | (refine br_intro (fun hb => ?_) (fun hb => ?_) <;> (try simp only [decide_eq_true_eq, decide_eq_false_iff_not, Bool.not_eq_true', Bool.not_eq_false', Bool.and_eq_true, Bool.or_eq_true, beq_iff_eq, not_and, Int.not_le, Int.not_lt, Int.toNat_natCast, beq_eq_false_iff_ne, ne_eq, eq_self, not_true_eq_false, not_false_eq_true] at hb) <;> (conv => whnf))
    | (refine RegX.rule (id := 6) hT rfl [] [(0, []), (1, [0]), (2, [0, 1]), (3, [0]), (4, [0]), (5, [0, 1, 2, 3, 4]), (6, [0, 1, 2, 3, 4, 5]), (7, [0, 1, 2, 3, 4, 5]), (8, [0, 1, 2, 3, 4]), (9, [0, 1, 2, 3, 4]), (10, [])] (by decide +kernel) ?_; conv => whnf)
    | (refine RegX.rule (id := 11) hT rfl [] [(0, []), (1, [0]), (2, [0, 1]), (3, [0]), (4, [0]), (5, [0, 1, 2, 3, 4]), (6, [0, 1, 2, 3, 4, 5]), (7, [0, 1, 2, 3, 4, 5]), (8, [0, 1, 2, 3, 4]), (9, [0, 1, 2, 3, 4]), (10, []), (11, [])] (by decide +kernel) ?_; conv => whnf)
    | omega
    | (refine And.intro ?_ ?_; ((try dsimp only); first | omega | (refine ⟨by omega, by omega, Int.le_trans (Int.mul_le_mul_of_nonneg_right (Int.ofNat_le.2 (Nat.le_of_ble_eq_true (rfl : Nat.ble _ 1024 = true))) (by omega)) (by omega), by omega⟩) | (refine Nat.le_trans (Nat.mul_le_mul_left _ (Nat.le_of_ble_eq_true (rfl : Nat.ble _ 1024 = true))) ?_; omega) | (unfold inI64; omega) | (constructor <;> omega) | (simp only [inI64, List.length_cons, List.length_append, List.length_nil, List.length_set] at *; omega) | decide | (unfold inI64; decide)); conv => whnf)
    | omega | decide | assumption)
  · refine .look rfl ?_
    conv => whnf
    repeat' (first
      | (refine br_intro (fun hb => ?_) (fun hb => ?_) <;> (try simp only [decide_eq_true_eq, decide_eq_false_iff_not, Bool.not_eq_true', Bool.not_eq_false', Bool.and_eq_true, Bool.or_eq_true, beq_iff_eq, not_and, Int.not_le, Int.not_lt, Int.toNat_natCast, beq_eq_false_iff_ne, ne_eq, eq_self, not_true_eq_false, not_false_eq_true] at hb) <;> (conv => whnf))
      | (refine RegX.rule (id := 6) hT rfl [] [(0, []), (1, [0]), (2, [0, 1]), (3, [0]), (4, [0]), (5, [0, 1, 2, 3, 4]), (6, [0, 1, 2, 3, 4, 5]), (7, [0, 1, 2, 3, 4, 5]), (8, [0, 1, 2, 3, 4]), (9, [0, 1, 2, 3, 4]), (10, [])] (by decide +kernel) ?_; conv => whnf)
      | (refine RegX.rule (id := 11) hT rfl [] [(0, []), (1, [0]), (2, [0, 1]), (3, [0]), (4, [0]), (5, [0, 1, 2, 3, 4]), (6, [0, 1, 2, 3, 4, 5]), (7, [0, 1, 2, 3, 4, 5]), (8, [0, 1, 2, 3, 4]), (9, [0, 1, 2, 3, 4]), (10, []), (11, [])] (by decide +kernel) ?_; conv => whnf)
      | omega
      | (refine And.intro ?_ ?_; ((try dsimp only); first | omega | (refine ⟨by omega, by omega, Int.le_trans (Int.mul_le_mul_of_nonneg_right (Int.ofNat_le.2 (Nat.le_of_ble_eq_true (rfl : Nat.ble _ 1024 = true))) (by omega)) (by omega), by omega⟩) | (refine Nat.le_trans (Nat.mul_le_mul_left _ (Nat.le_of_ble_eq_true (rfl : Nat.ble _ 1024 = true))) ?_; omega) | (unfold inI64; omega) | (constructor <;> omega) | (simp only [inI64, List.length_cons, List.length_append, List.length_nil, List.length_set] at *; omega) | decide | (unfold inI64; decide)); conv => whnf)
      | omega | decide | assumption)
    have hsub : SV.le (SV.sub 1000001 3 (k : Int).toNat (((l.length : Nat) : Int) - (k : Int)).toNat) (SV.sub 1000001 3 k (l.length - k)) := by
      rw [show (k : Int).toNat = k by omega, show (((l.length : Nat) : Int) - (k : Int)).toNat = l.length - k by omega]; exact SV.le_refl _
    refine LoopX.rule hT (C := []) (ι := Nat × Nat × List Mov) (fun (q, m, c) => k ≤ q ∧ q < k + m ∧ 1 ≤ m ∧ k + m ≤ l.length ∧ sameL l c)
      (fun (q, m, c) => mkSt [(0, .buf 1000001), (1, .fn g []), (5, .d (.int .i64 q)), (6, .sub 1000001 3 k (l.length - k)), (7, .d (.int .i64 m))] [(1000001, seqB 66 3 mvF mv0 c)])
      (fun (_, m, _) => l.length - m) (k, 1, l) ⟨by omega, by omega, by omega, by omega, rfl, fun x h => h⟩ (by refine Entails.mk' [(1000001, 1000001)] rfl rfl ?_ ?_ <;> repeat' (first | exact True.intro | exact SV.le_refl _ | exact Res.le_refl _ | (exact hsub) | exact SV.le_int (by omega) | exact SV.le_any _ | refine And.intro ?_ ?_)) ?_
    rintro ⟨q, m, c⟩ ⟨r1, r2, r3, r4, r5⟩
    have hc0 := r5.1
    conv => whnf
    repeat' (first
      | (refine CallX.of (heq (c.getD (k + (m : Int).toNat) mv0) (c.getD (k + ((m : Int) - 1).toNat) mv0) (r5.2 _ (getD_mem (by omega))) (r5.2 _ (getD_mem (by omega)))) [] rfl ⟨SV.le_refl _, SV.le_refl _, trivial⟩ trivial rfl rfl ?_; rintro x rout ⟨rfl, rfl⟩; refine ⟨rfl, ?_⟩; conv => whnf)
      | (refine SliceX.first (lo := none) rfl ?_; conv => whnf)
      | (refine SliceX.look (lo := some _) rfl ?_; conv => whnf)
      | (refine br_intro (fun hb => ?_) (fun hb => ?_) <;> (try simp only [decide_eq_true_eq, decide_eq_false_iff_not, Bool.not_eq_true', Bool.not_eq_false', Bool.and_eq_true, Bool.or_eq_true, beq_iff_eq, not_and, Int.not_le, Int.not_lt, Int.toNat_natCast, beq_eq_false_iff_ne, ne_eq, eq_self, not_true_eq_false, not_false_eq_true] at hb) <;> (conv => whnf))
      | (refine RegX.rule (id := 6) hT rfl [] [(0, []), (1, [0]), (2, [0, 1]), (3, [0]), (4, [0]), (5, [0, 1, 2, 3, 4]), (6, [0, 1, 2, 3, 4, 5]), (7, [0, 1, 2, 3, 4, 5]), (8, [0, 1, 2, 3, 4]), (9, [0, 1, 2, 3, 4]), (10, [])] (by decide +kernel) ?_; conv => whnf)
      | (refine RegX.rule (id := 11) hT rfl [] [(0, []), (1, [0]), (2, [0, 1]), (3, [0]), (4, [0]), (5, [0, 1, 2, 3, 4]), (6, [0, 1, 2, 3, 4, 5]), (7, [0, 1, 2, 3, 4, 5]), (8, [0, 1, 2, 3, 4]), (9, [0, 1, 2, 3, 4]), (10, []), (11, [])] (by decide +kernel) ?_; conv => whnf)
      | omega
      | (refine And.intro ?_ ?_; ((try dsimp only); first | omega | (refine ⟨by omega, by omega, Int.le_trans (Int.mul_le_mul_of_nonneg_right (Int.ofNat_le.2 (Nat.le_of_ble_eq_true (rfl : Nat.ble _ 1024 = true))) (by omega)) (by omega), by omega⟩) | (refine Nat.le_trans (Nat.mul_le_mul_left _ (Nat.le_of_ble_eq_true (rfl : Nat.ble _ 1024 = true))) ?_; omega) | (unfold inI64; omega) | (constructor <;> omega) | (simp only [inI64, List.length_cons, List.length_append, List.length_nil, List.length_set] at *; omega) | decide | (unfold inI64; decide)); conv => whnf)
      | omega | decide | assumption)
    · have e1 : ∀ z, z = k + (m : Int).toNat → z < l.length → c.getD z mv0 ∈ l := fun z _ h => r5.2 _ (getD_mem (by omega))
      refine ⟨(q + 1, m + 1, _), ⟨by omega, by omega, by omega, by omega, sameL_set r5 (e1 _ rfl (by omega))⟩, by show l.length - (m + 1) < l.length - m; omega, Entails.mk' [(1000001, 1000001)] rfl rfl ⟨SV.le_refl _, SV.le_refl _, SV.le_int (by omega), SV.le_refl _, SV.le_int (by omega), trivial⟩ ⟨Res.le_putF (fun _ _ => rfl), trivial⟩⟩
    · exact ⟨(q, m + 1, c), ⟨by omega, by omega, by omega, by omega, r5⟩, by show l.length - (m + 1) < l.length - m; omega, (by refine Entails.mk' [(1000001, 1000001)] rfl rfl ?_ ?_ <;> repeat' (first | exact True.intro | exact SV.le_refl _ | exact Res.le_refl _ | exact SV.le_int (by omega) | exact SV.le_any _ | refine And.intro ?_ ?_))⟩
    · refine .ret _ ?_
      conv => whnf
      refine ⟨_, ⟨c.take q, ⟨by rw [List.length_take]; omega, fun x hx => r5.2 x (List.mem_of_mem_take hx)⟩, 64, .inr rfl, rfl, rfl⟩, Res.le_buf (by rw [List.length_take]; omega) (fun i hi => ?_), trivial⟩
      have hi : i < q := by
        have : i < (q : Int).toNat := hi
        omega
      have h1 : Nat.ble (q : Int).toNat i = false := by
        rw [← Bool.not_eq_true, Nat.ble_eq]; omega
      show (bif Nat.ble (q : Int).toNat i && _ then _ else rowF mvF mv0 c i) = _
      rw [h1]
      simp only [Bool.false_and, cond_false, rowF]
      rw [List.getD_eq_getElem?_getD, List.getD_eq_getElem?_getD, List.getElem?_take_of_lt hi]
  · exact ⟨k + 1, ⟨by omega, by omega⟩, by omega, (by refine Entails.mk' [(1000001, 1000001)] rfl rfl ?_ ?_ <;> repeat' (first | exact True.intro | exact SV.le_refl _ | exact Res.le_refl _ | exact SV.le_int (by omega) | exact SV.le_any _ | refine And.intro ?_ ?_))⟩
  · refine .ret _ ?_
    conv => whnf
    exact ⟨_, ⟨l, ⟨Nat.le_refl _, fun x h => h⟩, 1000001, .inl rfl, rfl, rfl⟩, Res.le_refl _, trivial⟩
def mvKey (x : Mov) : List UInt8 := x.a ++ [32] ++ x.b
-- Moves$1
theorem z100 (x y : Mov) (hx : x.a.length ≤ 8 ∧ x.b.length ≤ 8) (hy : y.a.length ≤ 8 ∧ y.b.length ≤ 8) : FSpec Tryz.prog 100 [.agg ((mvF x).map .d), .agg ((mvF y).map .d)] [] (fun v r => v = .d (.int .i64 (cmpS (mvKey x) (mvKey y))) ∧ r = []) := by
  refine spec_of hT (C := []) Tryz.func100 rfl Tryz.call100 rfl rfl rfl ?_
  conv => whnf
  repeat' (first
    | (refine CallX.exact (s190 _ _) rfl rfl ?_; rotate_right; conv => whnf)
    | (refine br_intro (fun hb => ?_) (fun hb => ?_) <;> (try simp only [decide_eq_true_eq, decide_eq_false_iff_not, Bool.not_eq_true', Bool.not_eq_false', Bool.and_eq_true, Bool.or_eq_true, beq_iff_eq, not_and, Int.not_le, Int.not_lt, Int.toNat_natCast, beq_eq_false_iff_ne, ne_eq, eq_self, not_true_eq_false, not_false_eq_true] at hb) <;> (conv => whnf))
    | omega
    | (refine And.intro ?_ ?_; ((try dsimp only); first | omega | (refine ⟨by omega, by omega, Int.le_trans (Int.mul_le_mul_of_nonneg_right (Int.ofNat_le.2 (Nat.le_of_ble_eq_true (rfl : Nat.ble _ 1024 = true))) (by omega)) (by omega), by omega⟩) | (refine Nat.le_trans (Nat.mul_le_mul_left _ (Nat.le_of_ble_eq_true (rfl : Nat.ble _ 1024 = true))) ?_; omega) | (unfold inI64; omega) | (constructor <;> omega) | (simp only [inI64, List.length_cons, List.length_append, List.length_nil, List.length_set] at *; omega) | decide | (unfold inI64; decide)); conv => whnf)
    | omega | decide | assumption)
  refine .ret _ ?_
  conv => whnf
  refine ⟨[], ⟨?_, rfl⟩, trivial⟩
  conv => lhs; whnf
  all_goals rfl
-- Moves$2
theorem z103 (x y : Mov) : FSpec Tryz.prog 103 [.agg ((mvF x).map .d), .agg ((mvF y).map .d)] [] (fun v r => v = .d (.bool (x.a == y.a && x.b == y.b)) ∧ r = []) := by
  refine spec_of hT (C := []) Tryz.func103 rfl Tryz.call103 rfl rfl rfl ?_
  conv => whnf
  repeat' (first
    | (refine br_intro (fun hb => ?_) (fun hb => ?_) <;> (try simp only [decide_eq_true_eq, decide_eq_false_iff_not, Bool.not_eq_true', Bool.not_eq_false', Bool.and_eq_true, Bool.or_eq_true, beq_iff_eq, not_and, Int.not_le, Int.not_lt, Int.toNat_natCast, beq_eq_false_iff_ne, ne_eq, eq_self, not_true_eq_false, not_false_eq_true] at hb) <;> (conv => whnf))
    | omega
    | (refine And.intro ?_ ?_; ((try dsimp only); first | omega | (refine ⟨by omega, by omega, Int.le_trans (Int.mul_le_mul_of_nonneg_right (Int.ofNat_le.2 (Nat.le_of_ble_eq_true (rfl : Nat.ble _ 1024 = true))) (by omega)) (by omega), by omega⟩) | (refine Nat.le_trans (Nat.mul_le_mul_left _ (Nat.le_of_ble_eq_true (rfl : Nat.ble _ 1024 = true))) ?_; omega) | (unfold inI64; omega) | (constructor <;> omega) | (simp only [inI64, List.length_cons, List.length_append, List.length_nil, List.length_set] at *; omega) | decide | (unfold inI64; decide)); conv => whnf)
    | omega | decide | assumption)
  all_goals
    refine .ret _ ?_
    conv => whnf
    refine ⟨[], ⟨?_, rfl⟩, trivial⟩
    conv => lhs; whnf
    congr 2
    grind
end Go.Proofs.YtnkdlkgannnfhaaGreatDoor
set_option maxRecDepth 20000
namespace Go.Proofs.YtnkdlkgannnfhaaGreatDoor
open Go Go.Eng
abbrev spcell : Res := .cells 23 [.ptr 1000000 0]
-- Moves$3
theorem z105 (n : Nat) (L : Nat → Int) (hL : Rok n L) (a : Int) (h0 : 0 ≤ a) (ha : a ≤ 2^38) (x : Mov) : FSpec Tryz.prog 105 [.agg ((mvF x).map .d), .ptr 1000002 0] [(1000000, strm n L a), (1000002, spcell)] (fun y r => (∃ b : Bool, y = .d (.bool b)) ∧ ∃ c, (a ≤ c ∧ c ≤ a + 1) ∧ r = [(1000000, strm n L c), (1000002, spcell)]) := by
  refine spec_of hT (C := []) Tryz.func105 rfl Tryz.call105 rfl rfl rfl ?_
  conv => whnf
  repeat' (first
    | (refine CallX.of (s84 n L hL _ ?_ ?_ _ ?_) [(1000000, 1000000)] rfl ⟨SV.le_refl _, SV.le_refl _, trivial⟩ ⟨Res.le_refl _, trivial⟩ rfl rfl ?_; rotate_right; rintro x rout ⟨⟨f, rfl⟩, ⟨c, c1, c2, rfl⟩⟩; refine ⟨rfl, ?_⟩; conv => whnf)
    | (refine br_intro (fun hb => ?_) (fun hb => ?_) <;> (try simp only [decide_eq_true_eq, decide_eq_false_iff_not, Bool.not_eq_true', Bool.not_eq_false', Bool.and_eq_true, Bool.or_eq_true, beq_iff_eq, not_and, Int.not_le, Int.not_lt, Int.toNat_natCast, beq_eq_false_iff_ne, ne_eq, eq_self, not_true_eq_false, not_false_eq_true] at hb) <;> (conv => whnf))
    | omega
    | (refine And.intro ?_ ?_; ((try dsimp only); first | omega | (refine ⟨by omega, by omega, Int.le_trans (Int.mul_le_mul_of_nonneg_right (Int.ofNat_le.2 (Nat.le_of_ble_eq_true (rfl : Nat.ble _ 1024 = true))) (by omega)) (by omega), by omega⟩) | (refine Nat.le_trans (Nat.mul_le_mul_left _ (Nat.le_of_ble_eq_true (rfl : Nat.ble _ 1024 = true))) ?_; omega) | (unfold inI64; omega) | (constructor <;> omega) | (simp only [inI64, List.length_cons, List.length_append, List.length_nil, List.length_set] at *; omega) | decide | (unfold inI64; decide)); conv => whnf)
    | omega | decide | assumption)
  all_goals first
    | (refine .ret _ ?_
       conv => whnf
       exact ⟨[(1000000, strm n L c), (1000002, spcell)], ⟨⟨_, rfl⟩, c, ⟨by omega, by omega⟩, rfl⟩, Res.le_refl _, Res.le_refl _, trivial⟩)
    | (refine .ret _ ?_
       conv => whnf
       exact ⟨[(1000000, strm n L a), (1000002, spcell)], ⟨⟨_, rfl⟩, a, ⟨by omega, by omega⟩, rfl⟩, Res.le_refl _, Res.le_refl _, trivial⟩)
-- slices.IndexFunc of moves, by the stream
theorem z203 (n : Nat) (L : Nat → Int) (hL : Rok n L) (a : Int) (h0 : 0 ≤ a) (ha : a ≤ 2^37) (l : List Mov) (hl : l.length ≤ 1000) :
    FSpec Tryz.prog 203 [.buf 1000001, .fn 105 [.ptr 1000002 0]] [(1000000, strm n L a), (1000001, mvB l), (1000002, spcell)] (fun y r => (∃ j : Int, -1 ≤ j ∧ j < l.length ∧ y = .d (.int .i64 j)) ∧ ∃ c, (a ≤ c ∧ c ≤ a + l.length) ∧ r = [(1000000, strm n L c), (1000001, mvB l), (1000002, spcell)]) := by
  refine spec_of hT (C := []) Tryz.func203 rfl Tryz.call203 rfl rfl rfl ?_
  conv => whnf
  refine LoopX.rule hT (C := []) (ι := Nat × Int) (fun (i, b) => i ≤ l.length ∧ a ≤ b ∧ b ≤ a + i) (fun (i, b) => mkSt [(0, .buf 1000001), (1, .fn 105 [.ptr 1000002 0]), (7, .d (.int .i64 l.length)), (8, .d (.int .i64 i))] [(1000000, strm n L b), (1000001, mvB l), (1000002, spcell)]) (fun (i, _) => l.length - i) (0, a) ⟨by simp, by simp, by simp⟩ (by (refine Entails.mk' [(1000000, 1000000), (1000001, 1000001), (1000002, 1000002)] rfl rfl ?_ ?_ <;> repeat' (first | exact True.intro | exact SV.le_refl _ | exact Res.le_refl _ | exact SV.le_int (by omega) | exact SV.le_any _ | refine And.intro ?_ ?_)); done) ?_
  rintro ⟨i, b⟩ ⟨p1, p2, p3⟩
  have p1 : i ≤ l.length := p1
  have p2 : a ≤ b := p2
  have p3 : b ≤ a + i := p3
  conv => whnf
  repeat' (first
    | (refine CallX.of (z105 n L hL b (by omega) (by omega) (l.getD (i : Int).toNat mv0)) [(1000000, 1000000), (1000002, 1000002)] rfl ⟨SV.le_refl _, SV.le_refl _, trivial⟩ ⟨Res.le_refl _, Res.le_refl _, trivial⟩ rfl rfl ?_; rintro x rout ⟨⟨f, rfl⟩, c, ⟨hc1, hc2⟩, rfl⟩; refine ⟨rfl, ?_⟩; conv => whnf)
    | (refine br_intro (fun hb => ?_) (fun hb => ?_) <;> (try simp only [decide_eq_true_eq, decide_eq_false_iff_not, Bool.not_eq_true', Bool.not_eq_false', Bool.and_eq_true, Bool.or_eq_true, beq_iff_eq, not_and, Int.not_le, Int.not_lt, Int.toNat_natCast, beq_eq_false_iff_ne, ne_eq, eq_self, not_true_eq_false, not_false_eq_true] at hb) <;> (conv => whnf))
    | omega
    | (refine And.intro ?_ ?_; ((try dsimp only); first | omega | (refine ⟨by omega, by omega, Int.le_trans (Int.mul_le_mul_of_nonneg_right (Int.ofNat_le.2 (Nat.le_of_ble_eq_true (rfl : Nat.ble _ 1024 = true))) (by omega)) (by omega), by omega⟩) | (refine Nat.le_trans (Nat.mul_le_mul_left _ (Nat.le_of_ble_eq_true (rfl : Nat.ble _ 1024 = true))) ?_; omega) | (unfold inI64; omega) | (constructor <;> omega) | (simp only [inI64, List.length_cons, List.length_append, List.length_nil, List.length_set] at *; omega) | decide | (unfold inI64; decide)); conv => whnf)
    | omega | decide | assumption)
  all_goals first
    | exact ⟨(i + 1, c), ⟨by omega, by omega, by omega⟩, (show l.length - (i + 1) < l.length - i by omega), (by (refine Entails.mk' [(1000000, 1000000), (1000001, 1000001), (1000002, 1000002)] rfl rfl ?_ ?_ <;> repeat' (first | exact True.intro | exact SV.le_refl _ | exact Res.le_refl _ | exact SV.le_int (by omega) | exact SV.le_any _ | refine And.intro ?_ ?_)); done)⟩
    | (refine .ret _ ?_
       conv => whnf
       exact ⟨[(1000000, strm n L c), (1000001, mvB l), (1000002, spcell)], ⟨⟨_, by omega, by omega, rfl⟩, c, ⟨by omega, by omega⟩, rfl⟩, Res.le_refl _, Res.le_refl _, Res.le_refl _, trivial⟩)
    | (refine .ret _ ?_
       conv => whnf
       exact ⟨[(1000000, strm n L b), (1000001, mvB l), (1000002, spcell)], ⟨⟨_, by omega, by omega, rfl⟩, b, ⟨by omega, by omega⟩, rfl⟩, Res.le_refl _, Res.le_refl _, Res.le_refl _, trivial⟩)
-- slices.DeleteFunc of moves, by the stream: some of the elements
set_option maxHeartbeats 1000000 in
theorem z104 (n : Nat) (L : Nat → Int) (hL : Rok n L) (a : Int) (h0 : 0 ≤ a) (ha : a ≤ 2^36) (l : List Mov) (hl : l.length ≤ 1000) :
    FSpec Tryz.prog 104 [.buf 1000001, .fn 105 [.ptr 1000002 0]] [(1000000, strm n L a), (1000001, mvB l), (1000002, spcell)] (fun y r => ∃ c, subL l c ∧ ∃ d, (d = 1000001 ∨ d = 41) ∧ y = .buf d ∧ ∃ b, (a ≤ b ∧ b ≤ a + 2 * l.length) ∧ r = [(1000000, strm n L b), (d, mvB c), (1000002, spcell)]) := by
  refine spec_of hT (C := []) Tryz.func104 rfl Tryz.call104 rfl rfl rfl ?_
  conv => whnf
  refine CallX.of (z203 n L hL a h0 (by omega) l hl) [(1000000, 1000000), (1000001, 1000001), (1000002, 1000002)] rfl ⟨SV.le_refl _, SV.le_refl _, trivial⟩ ⟨Res.le_refl _, Res.le_refl _, Res.le_refl _, trivial⟩ rfl rfl ?_
  rintro x rout ⟨⟨j, hj1, hj2, rfl⟩, b0, ⟨hb1, hb2⟩, rfl⟩
  refine ⟨rfl, ?_⟩
  conv => whnf
  repeat' (first
    | (refine br_intro (fun hb => ?_) (fun hb => ?_) <;> (try simp only [decide_eq_true_eq, decide_eq_false_iff_not, Bool.not_eq_true', Bool.not_eq_false', Bool.and_eq_true, Bool.or_eq_true, beq_iff_eq, not_and, Int.not_le, Int.not_lt, Int.toNat_natCast, beq_eq_false_iff_ne, ne_eq, eq_self, not_true_eq_false, not_false_eq_true] at hb) <;> (conv => whnf))
    | omega
    | (refine And.intro ?_ ?_; ((try dsimp only); first | omega | (refine ⟨by omega, by omega, Int.le_trans (Int.mul_le_mul_of_nonneg_right (Int.ofNat_le.2 (Nat.le_of_ble_eq_true (rfl : Nat.ble _ 1024 = true))) (by omega)) (by omega), by omega⟩) | (refine Nat.le_trans (Nat.mul_le_mul_left _ (Nat.le_of_ble_eq_true (rfl : Nat.ble _ 1024 = true))) ?_; omega) | (unfold inI64; omega) | (constructor <;> omega) | (simp only [inI64, List.length_cons, List.length_append, List.length_nil, List.length_set] at *; omega) | decide | (unfold inI64; decide)); conv => whnf)
    | omega | decide | assumption)
  · refine .ret _ ?_
    conv => whnf
    exact ⟨_, ⟨l, ⟨Nat.le_refl _, fun x h => h⟩, 1000001, .inl rfl, rfl, b0, ⟨by omega, by omega⟩, rfl⟩, Res.le_refl _, Res.le_refl _, Res.le_refl _, trivial⟩
  obtain ⟨jN, rfl⟩ : ∃ jN : Nat, j = jN := ⟨j.toNat, by omega⟩
  refine LoopX.rule hT (C := []) (ι := Nat × Nat × Int × List Mov) (fun (i, k, b, c) => (i < k ∧ k ≤ l.length ∧ a ≤ b ∧ b ≤ a + l.length + k) ∧ sameL l c)
    (fun (i, k, b, c) => mkSt [(0, .buf 1000001), (1, .fn 105 [.ptr 1000002 0]), (5, .d (.int .i64 i)), (6, .d (.int .i64 k))] [(1000000, strm n L b), (1000001, mvB c), (1000002, spcell)]) (fun (_, k, _, _) => l.length - k) (jN, jN + 1, b0, l) ⟨⟨by show jN < jN + 1; omega, by show jN + 1 ≤ l.length; omega, by show a ≤ b0; omega, by show b0 ≤ a + l.length + ((jN + 1 : Nat) : Int); omega⟩, rfl, fun x h => h⟩ (by (refine Entails.mk' [(1000000, 1000000), (1000001, 1000001), (1000002, 1000002)] rfl rfl ?_ ?_ <;> repeat' (first | exact True.intro | exact SV.le_refl _ | exact Res.le_refl _ | exact SV.le_int (by omega) | exact SV.le_any _ | refine And.intro ?_ ?_)); done) ?_
  rintro ⟨i, k, b, c⟩ ⟨⟨r1, r2, r3, r4⟩, r5⟩
  have r1 : i < k := r1
  have r2 : k ≤ l.length := r2
  have r3 : a ≤ b := r3
  have r4 : b ≤ a + l.length + k := r4
  have hc0 := r5.1
  conv => whnf
  repeat' (first
    | (refine CallX.of (z105 n L hL b (by omega) (by omega) (c.getD (k : Int).toNat mv0)) [(1000000, 1000000), (1000002, 1000002)] rfl ⟨SV.le_refl _, SV.le_refl _, trivial⟩ ⟨Res.le_refl _, Res.le_refl _, trivial⟩ rfl rfl ?_; rintro x rout ⟨⟨f, rfl⟩, c5, ⟨hc1, hc2⟩, rfl⟩; refine ⟨rfl, ?_⟩; conv => whnf)
    | (refine SliceX.first (lo := none) rfl ?_; conv => whnf)
    | (refine SliceX.look (lo := some _) rfl ?_; conv => whnf)
    | (refine br_intro (fun hb => ?_) (fun hb => ?_) <;> (try simp only [decide_eq_true_eq, decide_eq_false_iff_not, Bool.not_eq_true', Bool.not_eq_false', Bool.and_eq_true, Bool.or_eq_true, beq_iff_eq, not_and, Int.not_le, Int.not_lt, Int.toNat_natCast, beq_eq_false_iff_ne, ne_eq, eq_self, not_true_eq_false, not_false_eq_true] at hb) <;> (conv => whnf))
    | omega
    | (refine And.intro ?_ ?_; ((try dsimp only); first | omega | (refine ⟨by omega, by omega, Int.le_trans (Int.mul_le_mul_of_nonneg_right (Int.ofNat_le.2 (Nat.le_of_ble_eq_true (rfl : Nat.ble _ 1024 = true))) (by omega)) (by omega), by omega⟩) | (refine Nat.le_trans (Nat.mul_le_mul_left _ (Nat.le_of_ble_eq_true (rfl : Nat.ble _ 1024 = true))) ?_; omega) | (unfold inI64; omega) | (constructor <;> omega) | (simp only [inI64, List.length_cons, List.length_append, List.length_nil, List.length_set] at *; omega) | decide | (unfold inI64; decide)); conv => whnf)
    | omega | decide | assumption)
  · exact ⟨(i + 1, k + 1, c5, c.set (i : Int).toNat (c.getD (k : Int).toNat mv0)), ⟨⟨by omega, by omega, by omega, by omega⟩, sameL_set r5 (r5.2 _ (getD_mem (by omega)))⟩, (show l.length - (k + 1) < l.length - k by omega), Entails.mk' [(1000000, 1000000), (1000001, 1000001), (1000002, 1000002)] rfl rfl ⟨SV.le_refl _, SV.le_refl _, SV.le_int (by omega), SV.le_int (by omega), trivial⟩ ⟨Res.le_refl _, Res.le_putF (fun _ _ => rfl), Res.le_refl _, trivial⟩⟩
  · exact ⟨(i, k + 1, c5, c), ⟨⟨by omega, by omega, by omega, by omega⟩, r5⟩, (show l.length - (k + 1) < l.length - k by omega), (by (refine Entails.mk' [(1000000, 1000000), (1000001, 1000001), (1000002, 1000002)] rfl rfl ?_ ?_ <;> repeat' (first | exact True.intro | exact SV.le_refl _ | exact Res.le_refl _ | exact SV.le_int (by omega) | exact SV.le_any _ | refine And.intro ?_ ?_)); done)⟩
  · refine .ret _ ?_
    conv => whnf
    refine ⟨_, ⟨c.take i, ⟨by rw [List.length_take]; omega, fun x hx => r5.2 x (List.mem_of_mem_take hx)⟩, 41, .inr rfl, rfl, b, ⟨by omega, by omega⟩, rfl⟩, Res.le_refl _, Res.le_buf (by rw [List.length_take]; omega) (fun s hs => ?_), Res.le_refl _, trivial⟩
    have hs : s < i := by
      have : s < (i : Int).toNat := hs
      omega
    have h1 : Nat.ble (i : Int).toNat s = false := by
      rw [← Bool.not_eq_true, Nat.ble_eq]; omega
    show (bif Nat.ble (i : Int).toNat s && _ then _ else rowF mvF mv0 c s) = _
    rw [h1]
    simp only [Bool.false_and, cond_false, rowF]
    rw [List.getD_eq_getElem?_getD, List.getD_eq_getElem?_getD, List.getElem?_take_of_lt hs]
end Go.Proofs.YtnkdlkgannnfhaaGreatDoor
set_option maxRecDepth 20000
namespace Go.Proofs.YtnkdlkgannnfhaaGreatDoor
open Go Go.Eng
def tE : List (List UInt8) := [[97], [98], [99], [100], [101]]
def rdS (x : Roa) : Prop := x.a.length ≤ 8 ∧ x.b.length ≤ 8
theorem tE_len {i : Nat} : (tE.getD i []).length ≤ 1 := by
  rcases Nat.lt_or_ge i 5 with h | h
  · have : i = 0 ∨ i = 1 ∨ i = 2 ∨ i = 3 ∨ i = 4 := by omega
    rcases this with rfl | rfl | rfl | rfl | rfl <;> decide
  · rw [List.getD_eq_getElem?_getD, List.getElem?_eq_none (by simpa [tE] using h)]; simp
theorem three_len {u x y z : List UInt8} (h : u ∈ [x, y, z]) (hx : x.length ≤ 8) (hy : y.length ≤ 8) (hz : z.length ≤ 8) : u.length ≤ 8 := by
  simp at h
  rcases h with rfl | rfl | rfl <;> assumption
abbrev rdB (l : List Roa) : Res := seqB 146 4 rdF rd0 l
-- Roads
set_option maxHeartbeats 2000000 in
theorem sRds (n : Nat) (L : Nat → Int) (hL : Rok n L) (a : Int) (h0 : 0 ≤ a) (ha : a ≤ 2^38) :
    FSpec Tryz.prog 17 [.ptr 1000000 0] [(1000000, strm n L a)] (fun y r => (∃ l : List Roa, allK rdS 25 l ∧ y = .d (roas l)) ∧ Moved n L a 100 r) := by
  refine spec_of hT (C := []) Tryz.func17 rfl Tryz.call17 rfl rfl rfl ?_
  conv => whnf
  repeat' (first
    | (refine br_intro (fun hb => ?_) (fun hb => ?_) <;> (try simp only [decide_eq_true_eq, decide_eq_false_iff_not, Bool.not_eq_true', Bool.not_eq_false', Bool.and_eq_true, Bool.or_eq_true, beq_iff_eq, not_and, Int.not_le, Int.not_lt, Int.toNat_natCast, beq_eq_false_iff_ne, ne_eq, eq_self, not_true_eq_false, not_false_eq_true] at hb) <;> (conv => whnf))
    | (refine RegX.rule (id := 14) hT rfl [] [(0, []), (1, [0]), (2, [0, 1]), (3, [0, 1, 2]), (4, [0, 1, 2, 3]), (5, [0, 1, 2, 3]), (6, [0, 1, 2, 3]), (7, [0, 1, 2, 3]), (8, [0, 1, 2, 3]), (10, [0, 1, 2, 3, 4, 5, 6, 7, 8]), (11, [0, 1, 2, 3, 4, 5, 6, 7, 8, 10]), (12, [0, 1, 2, 3, 4, 5, 6, 7, 8, 10]), (13, [0, 1, 2, 3, 4, 5, 6, 7, 8, 10]), (14, [0, 1, 2, 3, 4, 5, 6, 7, 8, 10]), (15, [0, 1, 2, 3, 4, 5, 6, 7, 8, 10]), (17, [0, 1, 2, 3, 4, 5, 6, 7, 8, 10, 11, 12, 13, 14, 15]), (9, [0, 1, 2, 10, 11, 12, 13, 14, 15, 17]), (16, [0, 1, 2, 17]), (18, [0, 1, 2]), (19, [1, 2]), (20, [1, 2]), (21, [1, 2]), (22, [2]), (23, [2]), (24, [2]), (25, []), (26, []), (27, [])] (by decide +kernel) ?_; conv => whnf)
    | omega
    | (refine And.intro ?_ ?_; ((try dsimp only); first | omega | (refine ⟨by omega, by omega, Int.le_trans (Int.mul_le_mul_of_nonneg_right (Int.ofNat_le.2 (Nat.le_of_ble_eq_true (rfl : Nat.ble _ 1024 = true))) (by omega)) (by omega), by omega⟩) | (refine Nat.le_trans (Nat.mul_le_mul_left _ (Nat.le_of_ble_eq_true (rfl : Nat.ble _ 1024 = true))) ?_; omega) | (unfold inI64; omega) | (constructor <;> omega) | (simp only [inI64, List.length_cons, List.length_append, List.length_nil, List.length_set] at *; omega) | decide | (unfold inI64; decide)); conv => whnf)
    | omega | decide | assumption)
  refine LoopX.rule hT (C := []) (ι := Int × Nat × List Roa) (fun (b, i, l) => (a ≤ b ∧ b ≤ a + 15 * i ∧ i ≤ 5) ∧ allK rdS (5 * i) l)
    (fun (b, i, l) => mkSt [(0, .ptr 1000000 0), (3, .buf 3), (9, .d (strs tE)), (10, .d (.int .i64 5)), (11, .d (.int .i64 i))] [(1000000, strm n L b), (3, rdB l)]) (fun (_, i, _) => 5 - i) (a, 0, []) ⟨by simp, by simp [allK]⟩ ?_ ?_
  · exact (Entails.nil 3 3 146 4 (rowF rdF rd0 []) rfl rfl (by decide)).trans (by refine Entails.mk' [(1000000, 1000000), (3, 3)] rfl rfl ?_ ?_ <;> repeat' (first | exact True.intro | exact SV.le_refl _ | exact Res.le_refl _ | (exact SV.le_lit rfl rfl) | exact SV.le_int (by omega) | exact SV.le_any _ | refine And.intro ?_ ?_))
  rintro ⟨b, i, l⟩ ⟨⟨p1, p2, p3⟩, p4⟩
  have p1 : a ≤ b := p1
  have p2 : b ≤ a + 15 * i := p2
  have p3 : i ≤ 5 := p3
  have p4 : allK rdS (5 * i) l := p4
  have hll := p4.1
  have htl : tE.length = 5 := rfl
  conv => whnf
  repeat' (first
    | (refine br_intro (fun hb => ?_) (fun hb => ?_) <;> (try simp only [decide_eq_true_eq, decide_eq_false_iff_not, Bool.not_eq_true', Bool.not_eq_false', Bool.and_eq_true, Bool.or_eq_true, beq_iff_eq, not_and, Int.not_le, Int.not_lt, Int.toNat_natCast, beq_eq_false_iff_ne, ne_eq, eq_self, not_true_eq_false, not_false_eq_true] at hb) <;> (conv => whnf))
    | (refine RegX.rule (id := 14) hT rfl [] [(0, []), (1, [0]), (2, [0, 1]), (3, [0, 1, 2]), (4, [0, 1, 2, 3]), (5, [0, 1, 2, 3]), (6, [0, 1, 2, 3]), (7, [0, 1, 2, 3]), (8, [0, 1, 2, 3]), (10, [0, 1, 2, 3, 4, 5, 6, 7, 8]), (11, [0, 1, 2, 3, 4, 5, 6, 7, 8, 10]), (12, [0, 1, 2, 3, 4, 5, 6, 7, 8, 10]), (13, [0, 1, 2, 3, 4, 5, 6, 7, 8, 10]), (14, [0, 1, 2, 3, 4, 5, 6, 7, 8, 10]), (15, [0, 1, 2, 3, 4, 5, 6, 7, 8, 10]), (17, [0, 1, 2, 3, 4, 5, 6, 7, 8, 10, 11, 12, 13, 14, 15]), (9, [0, 1, 2, 10, 11, 12, 13, 14, 15, 17]), (16, [0, 1, 2, 17]), (18, [0, 1, 2]), (19, [1, 2]), (20, [1, 2]), (21, [1, 2]), (22, [2]), (23, [2]), (24, [2]), (25, []), (26, []), (27, [])] (by decide +kernel) ?_; conv => whnf)
    | omega
    | (refine And.intro ?_ ?_; ((try dsimp only); first | omega | (refine ⟨by omega, by omega, Int.le_trans (Int.mul_le_mul_of_nonneg_right (Int.ofNat_le.2 (Nat.le_of_ble_eq_true (rfl : Nat.ble _ 1024 = true))) (by omega)) (by omega), by omega⟩) | (refine Nat.le_trans (Nat.mul_le_mul_left _ (Nat.le_of_ble_eq_true (rfl : Nat.ble _ 1024 = true))) ?_; omega) | (unfold inI64; omega) | (constructor <;> omega) | (simp only [inI64, List.length_cons, List.length_append, List.length_nil, List.length_set] at *; omega) | decide | (unfold inI64; decide)); conv => whnf)
    | omega | decide | assumption)
  · refine LoopX.rule hT (C := []) (ι := Int × Nat × List Roa) (fun (c, j, l) => (a ≤ c ∧ c ≤ a + 15 * i + 3 * j ∧ j ≤ 5) ∧ allK rdS (5 * i + j) l)
      (fun (c, j, l) => mkSt [(0, .ptr 1000000 0), (3, .buf 3), (5, .d (.str (tE.getD i []))), (9, .d (strs tE)), (10, .d (.int .i64 5)), (11, .d (.int .i64 i)), (15, .d (strs tE)), (16, .d (.int .i64 5)), (17, .d (.int .i64 j))] [(1000000, strm n L c), (3, rdB l)]) (fun (_, j, _) => 5 - j) (b, 0, l) ⟨by simp; omega, by simpa using p4⟩ ?_ ?_
    · exact (by refine Entails.mk' [(1000000, 1000000), (3, 3)] rfl rfl ?_ ?_ <;> repeat' (first | exact True.intro | exact SV.le_refl _ | exact Res.le_refl _ | (exact SV.le_lit rfl rfl) | exact SV.le_int (by omega) | exact SV.le_any _ | refine And.intro ?_ ?_))
    rintro ⟨c, j, l⟩ ⟨⟨r1, r2, r3⟩, r4⟩
    have r1 : a ≤ c := r1
    have r2 : c ≤ a + 15 * i + 3 * j := r2
    have r3 : j ≤ 5 := r3
    have r4 : allK rdS (5 * i + j) l := r4
    have hlj := r4.1
    have hi5 : i < 5 := by omega
    conv => whnf
    repeat' (first
      | (refine CallX.of (s84 n L hL _ ?_ ?_ _ ?_) [(1000000, 1000000)] rfl ⟨SV.le_refl _, SV.le_refl _, trivial⟩ ⟨Res.le_refl _, trivial⟩ rfl rfl ?_; rotate_right; rintro x rout ⟨⟨f, rfl⟩, ⟨c, c1, c2, rfl⟩⟩; refine ⟨rfl, ?_⟩; conv => whnf)
      | (refine CallX.of (s33 n L hL _ ?_ ?_ [0, 1, 3, 5, 5, 8, 20] ?_ ?_) [(1000000, 1000000)] rfl ⟨SV.le_refl _, SV.le_lit rfl rfl, trivial⟩ ⟨Res.le_refl _, trivial⟩ rfl rfl ?_; rotate_right; rintro x rout ⟨⟨u1, hu1, rfl⟩, ⟨c, c1, c2, rfl⟩⟩; refine ⟨rfl, ?_⟩; conv => whnf)
      | (refine CallX.of (s33 n L hL _ ?_ ?_ [0, 1, 2, 4] ?_ ?_) [(1000000, 1000000)] rfl ⟨SV.le_refl _, SV.le_lit rfl rfl, trivial⟩ ⟨Res.le_refl _, trivial⟩ rfl rfl ?_; rotate_right; rintro x rout ⟨⟨u2, hu2, rfl⟩, ⟨c, c1, c2, rfl⟩⟩; refine ⟨rfl, ?_⟩; conv => whnf)
      | (refine br_intro (fun hb => ?_) (fun hb => ?_) <;> (try simp only [decide_eq_true_eq, decide_eq_false_iff_not, Bool.not_eq_true', Bool.not_eq_false', Bool.and_eq_true, Bool.or_eq_true, beq_iff_eq, not_and, Int.not_le, Int.not_lt, Int.toNat_natCast, beq_eq_false_iff_ne, ne_eq, eq_self, not_true_eq_false, not_false_eq_true] at hb) <;> (conv => whnf))
      | (refine RegX.rule (id := 14) hT rfl [] [(0, []), (1, [0]), (2, [0, 1]), (3, [0, 1, 2]), (4, [0, 1, 2, 3]), (5, [0, 1, 2, 3]), (6, [0, 1, 2, 3]), (7, [0, 1, 2, 3]), (8, [0, 1, 2, 3]), (10, [0, 1, 2, 3, 4, 5, 6, 7, 8]), (11, [0, 1, 2, 3, 4, 5, 6, 7, 8, 10]), (12, [0, 1, 2, 3, 4, 5, 6, 7, 8, 10]), (13, [0, 1, 2, 3, 4, 5, 6, 7, 8, 10]), (14, [0, 1, 2, 3, 4, 5, 6, 7, 8, 10]), (15, [0, 1, 2, 3, 4, 5, 6, 7, 8, 10]), (17, [0, 1, 2, 3, 4, 5, 6, 7, 8, 10, 11, 12, 13, 14, 15]), (9, [0, 1, 2, 10, 11, 12, 13, 14, 15, 17]), (16, [0, 1, 2, 17]), (18, [0, 1, 2]), (19, [1, 2]), (20, [1, 2]), (21, [1, 2]), (22, [2]), (23, [2]), (24, [2]), (25, []), (26, []), (27, [])] (by decide +kernel) ?_; conv => whnf)
      | omega
      | (refine And.intro ?_ ?_; ((try dsimp only); first | omega | (refine ⟨by omega, by omega, Int.le_trans (Int.mul_le_mul_of_nonneg_right (Int.ofNat_le.2 (Nat.le_of_ble_eq_true (rfl : Nat.ble _ 1024 = true))) (by omega)) (by omega), by omega⟩) | (refine Nat.le_trans (Nat.mul_le_mul_left _ (Nat.le_of_ble_eq_true (rfl : Nat.ble _ 1024 = true))) ?_; omega) | (unfold inI64; omega) | (constructor <;> omega) | (simp only [inI64, List.length_cons, List.length_append, List.length_nil, List.length_set] at *; omega) | decide | (unfold inI64; decide)); conv => whnf)
      | omega | decide | assumption)
    all_goals first
      | (refine ⟨(_, j + 1, l ++ [⟨tE.getD i [], tE.getD j [], u1, u2⟩]), ⟨⟨by omega, ?_, by omega⟩, allK_snoc r4 (by omega) ⟨Nat.le_trans tE_len (by decide), Nat.le_trans tE_len (by decide)⟩⟩, (show 5 - (j + 1) < 5 - j by omega), Entails.mk' [(1000000, 1000000), (3, 40)] rfl rfl ⟨SV.le_refl _, SV.le_refl _, SV.le_refl _, SV.le_refl _, SV.le_refl _, SV.le_refl _, SV.le_refl _, SV.le_refl _, SV.le_refl _, trivial⟩ ⟨Res.le_refl _, Res.le_snocF rfl, trivial⟩⟩
         show _ ≤ a + 15 * (i : Int) + 3 * ((j + 1 : Nat) : Int)
         omega)
      | (refine ⟨(_, j + 1, l), ⟨⟨by omega, ?_, by omega⟩, allK_le r4 (by omega)⟩, (show 5 - (j + 1) < 5 - j by omega), Entails.mk' [(1000000, 1000000), (3, 3)] rfl rfl ⟨SV.le_refl _, SV.le_refl _, SV.le_refl _, SV.le_refl _, SV.le_refl _, SV.le_refl _, SV.le_refl _, SV.le_refl _, SV.le_refl _, trivial⟩ ⟨Res.le_refl _, Res.le_refl _, trivial⟩⟩
         show _ ≤ a + 15 * (i : Int) + 3 * ((j + 1 : Nat) : Int)
         omega)
      | (refine ⟨(c, i + 1, l), ⟨⟨by omega, by show c ≤ a + 15 * ((i + 1 : Nat) : Int); omega, by omega⟩, allK_le r4 (by omega)⟩, (show 5 - (i + 1) < 5 - i by omega), Entails.mk' [(1000000, 1000000), (3, 3)] rfl rfl ⟨SV.le_refl _, SV.le_refl _, SV.le_refl _, SV.le_refl _, SV.le_refl _, trivial⟩ ⟨Res.le_refl _, Res.le_refl _, trivial⟩⟩)
  all_goals
    have p5 : allK rdS 25 l := allK_le p4 (by omega)
    have hl25 := p5.1
    repeat' (first
      | (refine CallX.of (s84 n L hL _ ?_ ?_ _ ?_) [(1000000, 1000000)] rfl ⟨SV.le_refl _, SV.le_refl _, trivial⟩ ⟨Res.le_refl _, trivial⟩ rfl rfl ?_; rotate_right; rintro x rout ⟨⟨f, rfl⟩, ⟨c, c1, c2, rfl⟩⟩; refine ⟨rfl, ?_⟩; conv => whnf)
      | (refine CallX.of (s86 n L hL _ ?_ ?_ _ ?_) [(1000000, 1000000)] rfl ⟨SV.le_refl _, SV.le_refl _, trivial⟩ ⟨Res.le_refl _, trivial⟩ rfl rfl ?_; rotate_right; rintro x rout ⟨⟨j, hj1, hj2, hj3, rfl⟩, ⟨c, c1, c2, rfl⟩⟩; refine ⟨rfl, ?_⟩; conv => whnf)
      | (refine CallX.of (s15 n L hL _ ?_ ?_ [(l.getD j.toNat rd0).a, [], [98]] (by simp) (by simp)) [(1000000, 1000000)] rfl ⟨SV.le_refl _, SV.le_lit rfl rfl, trivial⟩ ⟨Res.le_refl _, trivial⟩ rfl rfl ?_; rotate_right; rintro x rout ⟨⟨u1, hu1, rfl⟩, ⟨c, c1, c2, rfl⟩⟩; refine ⟨rfl, ?_⟩; conv => whnf)
      | (refine CallX.of (s15 n L hL _ ?_ ?_ [(l.getD j.toNat rd0).b, [65], [98]] (by simp) (by simp)) [(1000000, 1000000)] rfl ⟨SV.le_refl _, SV.le_lit rfl rfl, trivial⟩ ⟨Res.le_refl _, trivial⟩ rfl rfl ?_; rotate_right; rintro x rout ⟨⟨u2, hu2, rfl⟩, ⟨c, c1, c2, rfl⟩⟩; refine ⟨rfl, ?_⟩; conv => whnf)
      | (refine CallX.of (s104 n L hL _ ?_ ?_ 0 1000000 ?_ ?_ ?_) [(1000000, 1000000)] rfl ⟨SV.le_refl _, SV.le_refl _, SV.le_refl _, trivial⟩ ⟨Res.le_refl _, trivial⟩ rfl rfl ?_; rotate_right; rintro x rout ⟨⟨u3, hk1, hk2, rfl⟩, ⟨c, c1, c2, rfl⟩⟩; refine ⟨rfl, ?_⟩; conv => whnf)
      | (refine br_intro (fun hb => ?_) (fun hb => ?_) <;> (try simp only [decide_eq_true_eq, decide_eq_false_iff_not, Bool.not_eq_true', Bool.not_eq_false', Bool.and_eq_true, Bool.or_eq_true, beq_iff_eq, not_and, Int.not_le, Int.not_lt, Int.toNat_natCast, beq_eq_false_iff_ne, ne_eq, eq_self, not_true_eq_false, not_false_eq_true] at hb) <;> (conv => whnf))
      | (refine RegX.rule (id := 14) hT rfl [] [(0, []), (1, [0]), (2, [0, 1]), (3, [0, 1, 2]), (4, [0, 1, 2, 3]), (5, [0, 1, 2, 3]), (6, [0, 1, 2, 3]), (7, [0, 1, 2, 3]), (8, [0, 1, 2, 3]), (10, [0, 1, 2, 3, 4, 5, 6, 7, 8]), (11, [0, 1, 2, 3, 4, 5, 6, 7, 8, 10]), (12, [0, 1, 2, 3, 4, 5, 6, 7, 8, 10]), (13, [0, 1, 2, 3, 4, 5, 6, 7, 8, 10]), (14, [0, 1, 2, 3, 4, 5, 6, 7, 8, 10]), (15, [0, 1, 2, 3, 4, 5, 6, 7, 8, 10]), (17, [0, 1, 2, 3, 4, 5, 6, 7, 8, 10, 11, 12, 13, 14, 15]), (9, [0, 1, 2, 10, 11, 12, 13, 14, 15, 17]), (16, [0, 1, 2, 17]), (18, [0, 1, 2]), (19, [1, 2]), (20, [1, 2]), (21, [1, 2]), (22, [2]), (23, [2]), (24, [2]), (25, []), (26, []), (27, [])] (by decide +kernel) ?_; conv => whnf)
      | omega
      | (refine And.intro ?_ ?_; ((try dsimp only); first | omega | (refine ⟨by omega, by omega, Int.le_trans (Int.mul_le_mul_of_nonneg_right (Int.ofNat_le.2 (Nat.le_of_ble_eq_true (rfl : Nat.ble _ 1024 = true))) (by omega)) (by omega), by omega⟩) | (refine Nat.le_trans (Nat.mul_le_mul_left _ (Nat.le_of_ble_eq_true (rfl : Nat.ble _ 1024 = true))) ?_; omega) | (unfold inI64; omega) | (constructor <;> omega) | (simp only [inI64, List.length_cons, List.length_append, List.length_nil, List.length_set] at *; omega) | decide | (unfold inI64; decide)); conv => whnf)
      | omega | decide | assumption)
  all_goals first
    | (refine .freeze _ 3 146 4 _ _ rfl (.weak _ ?_)
       (conv => whnf)
       have hx := p5.2 (l.getD j.toNat rd0) (getD_mem (by omega))
       have hq1 := three_len hu1 hx.1 (by decide) (by decide)
       have hq2 := three_len hu2 hx.2 (by decide) (by decide)
       exact ⟨_, [(1000000, strm n L _)], SV.le_upd3 (f := rdF) (d := rd0) (fun y : Roa => { y with a := u1 }) (fun y => { y with b := u2 }) (fun y => { y with car := u3 }) (fun _ => rfl) (fun _ => rfl) (fun _ => rfl), ⟨⟨_, allK_upd (g := fun y : Roa => { y with car := u3 }) (allK_upd (g := fun y : Roa => { y with b := u2 }) (allK_upd (g := fun y : Roa => { y with a := u1 }) p5 (fun y hy => ⟨hq1, hy.2⟩)) (fun y hy => ⟨hy.1, hq2⟩)) (fun y hy => hy), rfl⟩, _, by omega, by omega, rfl⟩, Res.le_refl _, trivial⟩)
    | (refine .freeze _ 3 146 4 _ _ rfl (.weak _ ?_)
       (conv => whnf)
       exact ⟨_, [(1000000, strm n L _)], SV.le_refl _, ⟨⟨l, p5, rfl⟩, _, by omega, by omega, rfl⟩, Res.le_refl _, trivial⟩)
end Go.Proofs.YtnkdlkgannnfhaaGreatDoor
set_option maxRecDepth 20000
namespace Go.Proofs.YtnkdlkgannnfhaaGreatDoor
open Go Go.Eng
-- Clone of no roads
theorem z97n : FSpec Tryz.prog 97 [.d .nilsl] [] (fun y r => y = .d .nilsl ∧ r = []) := by
  refine spec_of hT (C := []) Tryz.func97 rfl Tryz.call97 rfl rfl rfl ?_
  conv => whnf
  repeat' (first
    | (refine br_intro (fun hb => ?_) (fun hb => ?_) <;> (try simp only [decide_eq_true_eq, decide_eq_false_iff_not, Bool.not_eq_true', Bool.not_eq_false', Bool.and_eq_true, Bool.or_eq_true, beq_iff_eq, not_and, Int.not_le, Int.not_lt, Int.toNat_natCast, beq_eq_false_iff_ne, ne_eq, eq_self, not_true_eq_false, not_false_eq_true] at hb) <;> (conv => whnf))
    | omega
    | (refine And.intro ?_ ?_; ((try dsimp only); first | omega | (refine ⟨by omega, by omega, Int.le_trans (Int.mul_le_mul_of_nonneg_right (Int.ofNat_le.2 (Nat.le_of_ble_eq_true (rfl : Nat.ble _ 1024 = true))) (by omega)) (by omega), by omega⟩) | (refine Nat.le_trans (Nat.mul_le_mul_left _ (Nat.le_of_ble_eq_true (rfl : Nat.ble _ 1024 = true))) ?_; omega) | (unfold inI64; omega) | (constructor <;> omega) | (simp only [inI64, List.length_cons, List.length_append, List.length_nil, List.length_set] at *; omega) | decide | (unfold inI64; decide)); conv => whnf)
    | omega | decide | assumption)
  refine .ret _ ?_
  conv => whnf
  refine ⟨[], ⟨?_, rfl⟩, trivial⟩
  conv => lhs; whnf
-- PlanOf of nothing
set_option maxHeartbeats 4000000 in
theorem z98n : FSpec Tryz.prog 98 [.d .nilsl, .d .nilsl] [] (fun y r => y = .tup [.d .nilsl, .d (.bool true)] ∧ r = []) := by
  refine spec_of hT (C := []) Tryz.func98 rfl Tryz.call98 rfl rfl rfl ?_
  conv => whnf
  repeat' (first
    | (refine ⟨[], ⟨rfl, fun i hi => absurd hi (by simp)⟩, ?_⟩; conv => whnf)
    | (refine LoopX.run hT (C := []) 8 rfl [0, 1, 6, 7, 19, 20, 21] [] (fun _ _ h => h) (fun _ h => h) ?_; conv => whnf)
    | (refine LoopX.run hT (C := []) 24 rfl [1, 6, 10, 46, 47, 48] [] (fun _ _ h => h) (fun _ h => h) ?_; conv => whnf)
    | (refine LoopX.run hT (C := []) 34 rfl [1, 6, 12, 13, 46, 47, 48, 57] [] (fun _ _ h => h) (fun _ h => h) ?_; conv => whnf)
    | (refine br_intro (fun hb => ?_) (fun hb => ?_) <;> (try simp only [decide_eq_true_eq, decide_eq_false_iff_not, Bool.not_eq_true', Bool.not_eq_false', Bool.and_eq_true, Bool.or_eq_true, beq_iff_eq, not_and, Int.not_le, Int.not_lt, Int.toNat_natCast, beq_eq_false_iff_ne, ne_eq, eq_self, not_true_eq_false, not_false_eq_true] at hb) <;> (conv => whnf))
    | omega
    | (refine And.intro ?_ ?_; ((try dsimp only); first | omega | (refine ⟨by omega, by omega, Int.le_trans (Int.mul_le_mul_of_nonneg_right (Int.ofNat_le.2 (Nat.le_of_ble_eq_true (rfl : Nat.ble _ 1024 = true))) (by omega)) (by omega), by omega⟩) | (refine Nat.le_trans (Nat.mul_le_mul_left _ (Nat.le_of_ble_eq_true (rfl : Nat.ble _ 1024 = true))) ?_; omega) | (unfold inI64; omega) | (constructor <;> omega) | (simp only [inI64, List.length_cons, List.length_append, List.length_nil, List.length_set] at *; omega) | decide | (unfold inI64; decide)); conv => whnf)
    | omega | decide | assumption)
  refine .ret _ ?_
  conv => whnf
  refine ⟨[], ⟨congrArg SV.tup ?_, rfl⟩, trivial⟩
  repeat' (refine cons_eq ?_ ?_)
  all_goals (conv => lhs; whnf)
  all_goals try (with_reducible rfl)
  all_goals rfl
end Go.Proofs.YtnkdlkgannnfhaaGreatDoor
set_option maxRecDepth 20000
namespace Go.Proofs.YtnkdlkgannnfhaaGreatDoor
open Go Go.Eng
def mvG (x : Mov) : Prop := x.a.length ≤ 8 ∧ x.b.length ≤ 8
-- Moves of nothing
set_option maxHeartbeats 8000000 in
theorem sMov (n : Nat) (L : Nat → Int) (hL : Rok n L) (a : Int) (h0 : 0 ≤ a) (ha : a ≤ 2^35) :
    FSpec Tryz.prog 18 [.ptr 1000000 0, .d .nilsl, .d .nilsl] [(1000000, strm n L a)] (fun y r => (∃ l : List Mov, allK mvG 5 l ∧ y = .d (movs l)) ∧ Moved n L a 60 r) := by
  have h20 := z20 [] ⟨by simp, fun x hx => by cases hx⟩
  rw [show ndsE [] = 0 from rfl] at h20
  have h21 := z21 [] ⟨by simp, fun x hx => by cases hx⟩
  rw [show rdsE [] = 0 from rfl] at h21
  refine spec_of hT (C := []) Tryz.func18 rfl Tryz.call18 rfl rfl rfl ?_
  conv => whnf
  repeat' (first
    | (refine CallX.pure h20 ⟨SV.le_nilS, trivial⟩ rfl ?_; conv => whnf)
    | (refine CallX.pure h21 ⟨SV.le_nilS, trivial⟩ rfl ?_; conv => whnf)
    | (refine CallX.of (s84 n L hL _ ?_ ?_ _ ?_) [(1000000, 1000000)] rfl ⟨SV.le_refl _, SV.le_refl _, trivial⟩ ⟨Res.le_refl _, trivial⟩ rfl rfl ?_; rotate_right; rintro x rout ⟨⟨f, rfl⟩, ⟨c, c1, c2, rfl⟩⟩; refine ⟨rfl, ?_⟩; conv => whnf)
    | (refine CallX.exact (z97n) rfl rfl ?_; rotate_right; conv => whnf)
    | (refine br_intro (fun hb => ?_) (fun hb => ?_) <;> (try simp only [decide_eq_true_eq, decide_eq_false_iff_not, Bool.not_eq_true', Bool.not_eq_false', Bool.and_eq_true, Bool.or_eq_true, beq_iff_eq, not_and, Int.not_le, Int.not_lt, Int.toNat_natCast, beq_eq_false_iff_ne, ne_eq, eq_self, not_true_eq_false, not_false_eq_true] at hb) <;> (conv => whnf))
    | (refine RegX.rule (id := 11) hT rfl [] [(0, []), (1, [0]), (2, [0, 1]), (3, [0, 1]), (8, [0, 1, 2, 3]), (9, [0, 1, 2, 3, 8]), (4, [0, 8, 9]), (5, [8, 9]), (6, [8, 9]), (7, [8, 9]), (10, [0, 5, 6, 7]), (11, []), (12, []), (13, []), (14, [])] (by decide +kernel) ?_; conv => whnf)
    | (refine RegX.rule (id := 16) hT rfl [] [(0, []), (1, [0]), (2, [0, 1]), (4, [0, 1, 2]), (5, [0, 1, 2, 4]), (7, [0, 1, 2, 4, 5]), (8, [0, 1, 2, 4, 5, 7]), (3, [0, 4, 5, 7, 8]), (6, [0, 7, 8]), (9, [0]), (10, [0]), (11, [0]), (12, []), (13, [])] (by decide +kernel) ?_; conv => whnf)
    | (refine RegX.rule (id := 23) hT rfl [] [(0, []), (1, [0]), (2, [0, 1]), (3, [0, 1, 2]), (4, [0, 1, 2]), (5, [0, 1, 2]), (6, [0, 1, 2]), (7, [0, 1, 2]), (9, [0, 1, 2, 3, 4, 5, 6, 7]), (8, [0, 1, 9]), (10, [0, 1]), (11, [1]), (12, [1]), (13, [1]), (14, []), (15, []), (16, [])] (by decide +kernel) ?_; conv => whnf)
    | omega
    | (refine And.intro ?_ ?_; ((try dsimp only); first | omega | (refine ⟨by omega, by omega, Int.le_trans (Int.mul_le_mul_of_nonneg_right (Int.ofNat_le.2 (Nat.le_of_ble_eq_true (rfl : Nat.ble _ 1024 = true))) (by omega)) (by omega), by omega⟩) | (refine Nat.le_trans (Nat.mul_le_mul_left _ (Nat.le_of_ble_eq_true (rfl : Nat.ble _ 1024 = true))) ?_; omega) | (unfold inI64; omega) | (constructor <;> omega) | (simp only [inI64, List.length_cons, List.length_append, List.length_nil, List.length_set] at *; omega) | decide | (unfold inI64; decide)); conv => whnf)
    | omega | decide | assumption)
  · refine LoopX.unroll hT (C := []) (fun _ _ h => h) (fun _ h => h) ?_
    conv => whnf
    repeat' (first
      | (refine CallX.exact (z98n) rfl rfl ?_; rotate_right; conv => whnf)
      | (refine CallX.of (s84 n L hL _ ?_ ?_ _ ?_) [(1000000, 1000000)] rfl ⟨SV.le_refl _, SV.le_refl _, trivial⟩ ⟨Res.le_refl _, trivial⟩ rfl rfl ?_; rotate_right; rintro x rout ⟨⟨f, rfl⟩, ⟨c, c1, c2, rfl⟩⟩; refine ⟨rfl, ?_⟩; conv => whnf)
      | (refine br_intro (fun hb => ?_) (fun hb => ?_) <;> (try simp only [decide_eq_true_eq, decide_eq_false_iff_not, Bool.not_eq_true', Bool.not_eq_false', Bool.and_eq_true, Bool.or_eq_true, beq_iff_eq, not_and, Int.not_le, Int.not_lt, Int.toNat_natCast, beq_eq_false_iff_ne, ne_eq, eq_self, not_true_eq_false, not_false_eq_true] at hb) <;> (conv => whnf))
      | (refine RegX.rule (id := 11) hT rfl [] [(0, []), (1, [0]), (2, [0, 1]), (3, [0, 1]), (8, [0, 1, 2, 3]), (9, [0, 1, 2, 3, 8]), (4, [0, 8, 9]), (5, [8, 9]), (6, [8, 9]), (7, [8, 9]), (10, [0, 5, 6, 7]), (11, []), (12, []), (13, []), (14, [])] (by decide +kernel) ?_; conv => whnf)
      | (refine RegX.rule (id := 16) hT rfl [] [(0, []), (1, [0]), (2, [0, 1]), (4, [0, 1, 2]), (5, [0, 1, 2, 4]), (7, [0, 1, 2, 4, 5]), (8, [0, 1, 2, 4, 5, 7]), (3, [0, 4, 5, 7, 8]), (6, [0, 7, 8]), (9, [0]), (10, [0]), (11, [0]), (12, []), (13, [])] (by decide +kernel) ?_; conv => whnf)
      | (refine RegX.rule (id := 23) hT rfl [] [(0, []), (1, [0]), (2, [0, 1]), (3, [0, 1, 2]), (4, [0, 1, 2]), (5, [0, 1, 2]), (6, [0, 1, 2]), (7, [0, 1, 2]), (9, [0, 1, 2, 3, 4, 5, 6, 7]), (8, [0, 1, 9]), (10, [0, 1]), (11, [1]), (12, [1]), (13, [1]), (14, []), (15, []), (16, [])] (by decide +kernel) ?_; conv => whnf)
      | omega
      | (refine And.intro ?_ ?_; ((try dsimp only); first | omega | (refine ⟨by omega, by omega, Int.le_trans (Int.mul_le_mul_of_nonneg_right (Int.ofNat_le.2 (Nat.le_of_ble_eq_true (rfl : Nat.ble _ 1024 = true))) (by omega)) (by omega), by omega⟩) | (refine Nat.le_trans (Nat.mul_le_mul_left _ (Nat.le_of_ble_eq_true (rfl : Nat.ble _ 1024 = true))) ?_; omega) | (unfold inI64; omega) | (constructor <;> omega) | (simp only [inI64, List.length_cons, List.length_append, List.length_nil, List.length_set] at *; omega) | decide | (unfold inI64; decide)); conv => whnf)
      | omega | decide | assumption)
    refine .weak _ ?_
    conv => whnf
    exact ⟨_, [(1000000, strm n L _)], SV.le_nilS, ⟨⟨[], ⟨by simp, fun x hx => by cases hx⟩, rfl⟩, _, by omega, by omega, rfl⟩, Res.le_refl _, trivial⟩
  repeat' (first
    | (refine CallX.of (s64 n L hL _ ?_ ?_ 0 5 ?_ ?_ ?_ ?_) [(1000000, 1000000)] rfl ⟨SV.le_refl _, SV.le_refl _, SV.le_refl _, trivial⟩ ⟨Res.le_refl _, trivial⟩ rfl rfl ?_; rotate_right; rintro x rout ⟨⟨k, hk1, hk2, rfl⟩, ⟨c, c1, c2, rfl⟩⟩; refine ⟨rfl, ?_⟩; conv => whnf)
    | (refine br_intro (fun hb => ?_) (fun hb => ?_) <;> (try simp only [decide_eq_true_eq, decide_eq_false_iff_not, Bool.not_eq_true', Bool.not_eq_false', Bool.and_eq_true, Bool.or_eq_true, beq_iff_eq, not_and, Int.not_le, Int.not_lt, Int.toNat_natCast, beq_eq_false_iff_ne, ne_eq, eq_self, not_true_eq_false, not_false_eq_true] at hb) <;> (conv => whnf))
    | (refine RegX.rule (id := 11) hT rfl [] [(0, []), (1, [0]), (2, [0, 1]), (3, [0, 1]), (8, [0, 1, 2, 3]), (9, [0, 1, 2, 3, 8]), (4, [0, 8, 9]), (5, [8, 9]), (6, [8, 9]), (7, [8, 9]), (10, [0, 5, 6, 7]), (11, []), (12, []), (13, []), (14, [])] (by decide +kernel) ?_; conv => whnf)
    | (refine RegX.rule (id := 16) hT rfl [] [(0, []), (1, [0]), (2, [0, 1]), (4, [0, 1, 2]), (5, [0, 1, 2, 4]), (7, [0, 1, 2, 4, 5]), (8, [0, 1, 2, 4, 5, 7]), (3, [0, 4, 5, 7, 8]), (6, [0, 7, 8]), (9, [0]), (10, [0]), (11, [0]), (12, []), (13, [])] (by decide +kernel) ?_; conv => whnf)
    | (refine RegX.rule (id := 23) hT rfl [] [(0, []), (1, [0]), (2, [0, 1]), (3, [0, 1, 2]), (4, [0, 1, 2]), (5, [0, 1, 2]), (6, [0, 1, 2]), (7, [0, 1, 2]), (9, [0, 1, 2, 3, 4, 5, 6, 7]), (8, [0, 1, 9]), (10, [0, 1]), (11, [1]), (12, [1]), (13, [1]), (14, []), (15, []), (16, [])] (by decide +kernel) ?_; conv => whnf)
    | omega
    | (refine And.intro ?_ ?_; ((try dsimp only); first | omega | (refine ⟨by omega, by omega, Int.le_trans (Int.mul_le_mul_of_nonneg_right (Int.ofNat_le.2 (Nat.le_of_ble_eq_true (rfl : Nat.ble _ 1024 = true))) (by omega)) (by omega), by omega⟩) | (refine Nat.le_trans (Nat.mul_le_mul_left _ (Nat.le_of_ble_eq_true (rfl : Nat.ble _ 1024 = true))) ?_; omega) | (unfold inI64; omega) | (constructor <;> omega) | (simp only [inI64, List.length_cons, List.length_append, List.length_nil, List.length_set] at *; omega) | decide | (unfold inI64; decide)); conv => whnf)
    | omega | decide | assumption)
  refine LoopX.rule hT (C := []) (ι := Int × List Mov × Nat) (fun (b, l, i) => (a ≤ b ∧ b ≤ a + 2 + 3 * i ∧ (i : Int) ≤ k) ∧ allK mvG i l)
    (fun (b, l, i) => mkSt [(3, .ptr 3 0), (11, .buf 11), (70, .d (.int .i64 k)), (71, .d (.int .i64 i))] [(1000000, strm n L b), (3, .cells 23 [.ptr 1000000 0]), (11, mvB l)])
    (fun (_, _, i) => (k - i).toNat) (c, [], 0) ⟨⟨by show a ≤ c; omega, by show c ≤ a + 2 + 3 * ((0 : Nat) : Int); omega, by show ((0 : Nat) : Int) ≤ k; omega⟩, ⟨by simp, fun x hx => by cases hx⟩⟩ ?_ ?_
  · exact (Entails.nil 11 11 66 3 (rowF mvF mv0 []) rfl rfl (by decide)).trans (by (refine Entails.mk' [(1000000, 1000000), (3, 3), (11, 11)] rfl rfl ?_ ?_ <;> repeat' (first | exact True.intro | exact SV.le_refl _ | exact Res.le_refl _ | exact SV.le_int (by omega) | exact SV.le_any _ | refine And.intro ?_ ?_)); done)
  rintro ⟨b, l, i⟩ ⟨⟨p1, p2, p3⟩, p4⟩
  have p1 : a ≤ b := p1
  have p2 : b ≤ a + 2 + 3 * i := p2
  have p3 : (i : Int) ≤ k := p3
  have p4 : allK mvG i l := p4
  have hl1 := p4.1
  conv => whnf
  repeat' (first
    | (refine CallX.of (s15 n L hL _ ?_ ?_ [[97], [98], [99], [100]] (by simp) (by simp)) [(1000000, 1000000)] rfl ⟨SV.le_refl _, SV.le_lit rfl rfl, trivial⟩ ⟨Res.le_refl _, trivial⟩ rfl rfl ?_; rotate_right; rintro x rout ⟨⟨u1, hu1, rfl⟩, ⟨c, c1, c2, rfl⟩⟩; have hw1 := mem_len hu1 rfl; refine ⟨rfl, ?_⟩; conv => whnf)
    | (refine CallX.of (s15 n L hL _ ?_ ?_ [[98], [99], [100], [101]] (by simp) (by simp)) [(1000000, 1000000)] rfl ⟨SV.le_refl _, SV.le_lit rfl rfl, trivial⟩ ⟨Res.le_refl _, trivial⟩ rfl rfl ?_; rotate_right; rintro x rout ⟨⟨u2, hu2, rfl⟩, ⟨c, c1, c2, rfl⟩⟩; have hw2 := mem_len hu2 rfl; refine ⟨rfl, ?_⟩; conv => whnf)
    | (refine CallX.of (s33 n L hL _ ?_ ?_ [1, 1, 2] ?_ ?_) [(1000000, 1000000)] rfl ⟨SV.le_refl _, SV.le_lit rfl rfl, trivial⟩ ⟨Res.le_refl _, trivial⟩ rfl rfl ?_; rotate_right; rintro x rout ⟨⟨u3, hu3, rfl⟩, ⟨c, c1, c2, rfl⟩⟩; refine ⟨rfl, ?_⟩; conv => whnf)
    | (refine br_intro (fun hb => ?_) (fun hb => ?_) <;> (try simp only [decide_eq_true_eq, decide_eq_false_iff_not, Bool.not_eq_true', Bool.not_eq_false', Bool.and_eq_true, Bool.or_eq_true, beq_iff_eq, not_and, Int.not_le, Int.not_lt, Int.toNat_natCast, beq_eq_false_iff_ne, ne_eq, eq_self, not_true_eq_false, not_false_eq_true] at hb) <;> (conv => whnf))
    | (refine RegX.rule (id := 11) hT rfl [] [(0, []), (1, [0]), (2, [0, 1]), (3, [0, 1]), (8, [0, 1, 2, 3]), (9, [0, 1, 2, 3, 8]), (4, [0, 8, 9]), (5, [8, 9]), (6, [8, 9]), (7, [8, 9]), (10, [0, 5, 6, 7]), (11, []), (12, []), (13, []), (14, [])] (by decide +kernel) ?_; conv => whnf)
    | (refine RegX.rule (id := 16) hT rfl [] [(0, []), (1, [0]), (2, [0, 1]), (4, [0, 1, 2]), (5, [0, 1, 2, 4]), (7, [0, 1, 2, 4, 5]), (8, [0, 1, 2, 4, 5, 7]), (3, [0, 4, 5, 7, 8]), (6, [0, 7, 8]), (9, [0]), (10, [0]), (11, [0]), (12, []), (13, [])] (by decide +kernel) ?_; conv => whnf)
    | (refine RegX.rule (id := 23) hT rfl [] [(0, []), (1, [0]), (2, [0, 1]), (3, [0, 1, 2]), (4, [0, 1, 2]), (5, [0, 1, 2]), (6, [0, 1, 2]), (7, [0, 1, 2]), (9, [0, 1, 2, 3, 4, 5, 6, 7]), (8, [0, 1, 9]), (10, [0, 1]), (11, [1]), (12, [1]), (13, [1]), (14, []), (15, []), (16, [])] (by decide +kernel) ?_; conv => whnf)
    | omega
    | (refine And.intro ?_ ?_; ((try dsimp only); first | omega | (refine ⟨by omega, by omega, Int.le_trans (Int.mul_le_mul_of_nonneg_right (Int.ofNat_le.2 (Nat.le_of_ble_eq_true (rfl : Nat.ble _ 1024 = true))) (by omega)) (by omega), by omega⟩) | (refine Nat.le_trans (Nat.mul_le_mul_left _ (Nat.le_of_ble_eq_true (rfl : Nat.ble _ 1024 = true))) ?_; omega) | (unfold inI64; omega) | (constructor <;> omega) | (simp only [inI64, List.length_cons, List.length_append, List.length_nil, List.length_set] at *; omega) | decide | (unfold inI64; decide)); conv => whnf)
    | omega | decide | assumption)
  · refine ⟨(_, l ++ [⟨u1, u2, u3⟩], i + 1), ⟨⟨by omega, ?_, by omega⟩, allK_snoc p4 (by omega) ⟨hw1, hw2⟩⟩, (show (k - ((i + 1 : Nat) : Int)).toNat < (k - (i : Int)).toNat by omega), Entails.mk' [(1000000, 1000000), (3, 3), (11, 85)] rfl rfl ⟨SV.le_refl _, SV.le_refl _, SV.le_refl _, SV.le_refl _, trivial⟩ ⟨Res.le_refl _, Res.le_refl _, Res.le_snocF rfl, trivial⟩⟩
    show _ ≤ a + 2 + 3 * ((i + 1 : Nat) : Int)
    omega
  have hl5 : l.length ≤ 5 := by omega
  have hi5 : i ≤ 5 := by omega
  refine CallX.of (z99 100 (fun x y => cmpS (mvKey x) (mvKey y)) l (by omega) (fun x y hx hy => z100 x y (p4.2 x hx) (p4.2 y hy))) [(1000001, 11)] rfl ⟨SV.le_refl _, SV.le_refl _, trivial⟩ ⟨Res.le_refl _, trivial⟩ rfl rfl ?_
  rintro x rout ⟨rfl, c1, hc1, rfl⟩
  refine ⟨rfl, ?_⟩
  have hcl1 : c1.length ≤ 5 := by have := hc1.1; omega
  conv => whnf
  refine CallX.of (z102 103 (fun x y => x.a == y.a && x.b == y.b) c1 (by omega) (fun x y _ _ => z103 x y)) [(1000001, 11), (64, 200)] rfl ⟨SV.le_refl _, SV.le_refl _, trivial⟩ ⟨Res.le_refl _, trivial⟩ rfl rfl ?_
  rintro x rout ⟨c2, hc2, nm, hnm, rfl, rfl⟩
  have hcl2 : c2.length ≤ 5 := by have := hc2.1; omega
  rcases hnm with rfl | rfl
  · refine ⟨rfl, ?_⟩
    conv => whnf
    refine CallX.of (z104 n L hL b (by omega) (by omega) c2 (by omega)) [(1000000, 1000000), (1000001, 11), (1000002, 3), (41, 300)] rfl ⟨SV.le_refl _, SV.le_refl _, trivial⟩ ⟨Res.le_refl _, Res.le_refl _, Res.le_refl _, trivial⟩ rfl rfl ?_
    rintro x rout ⟨e, he1, nm, hnm, rfl, c5, ⟨hv1, hv2⟩, rfl⟩
    rcases hnm with rfl | rfl
    · refine ⟨rfl, ?_⟩
      conv => whnf
      have hsh : allK mvG 5 e := ⟨by have := hc1.1; have := hc2.1; have := he1.1; omega, fun p hp => p4.2 p (hc1.2 p (hc2.2 p (he1.2 p hp)))⟩
      have he5 := hsh.1
      repeat' (first
        | (refine CallX.of (s84 n L hL _ ?_ ?_ _ ?_) [(1000000, 1000000)] rfl ⟨SV.le_refl _, SV.le_refl _, trivial⟩ ⟨Res.le_refl _, trivial⟩ rfl rfl ?_; rotate_right; rintro x rout ⟨⟨f, rfl⟩, ⟨c, c1, c2, rfl⟩⟩; refine ⟨rfl, ?_⟩; conv => whnf)
        | (refine CallX.of (s86 n L hL _ ?_ ?_ _ ?_) [(1000000, 1000000)] rfl ⟨SV.le_refl _, SV.le_refl _, trivial⟩ ⟨Res.le_refl _, trivial⟩ rfl rfl ?_; rotate_right; rintro x rout ⟨⟨j, hj1, hj2, hj3, rfl⟩, ⟨c, c1, c2, rfl⟩⟩; refine ⟨rfl, ?_⟩; conv => whnf)
        | (refine CallX.of (s15 n L hL _ ?_ ?_ [(e.getD j.toNat mv0).a, [], [122]] (by simp) (by simp)) [(1000000, 1000000)] rfl ⟨SV.le_refl _, SV.le_lit rfl rfl, trivial⟩ ⟨Res.le_refl _, trivial⟩ rfl rfl ?_; rotate_right; rintro x rout ⟨⟨u1, hu1, rfl⟩, ⟨c, c1, c2, rfl⟩⟩; refine ⟨rfl, ?_⟩; conv => whnf)
        | (refine CallX.of (s104 n L hL _ ?_ ?_ 1 20 ?_ ?_ ?_) [(1000000, 1000000)] rfl ⟨SV.le_refl _, SV.le_refl _, SV.le_refl _, trivial⟩ ⟨Res.le_refl _, trivial⟩ rfl rfl ?_; rotate_right; rintro x rout ⟨⟨u3, hk1, hk2, rfl⟩, ⟨c, c1, c2, rfl⟩⟩; refine ⟨rfl, ?_⟩; conv => whnf)
        | (refine br_intro (fun hb => ?_) (fun hb => ?_) <;> (try simp only [decide_eq_true_eq, decide_eq_false_iff_not, Bool.not_eq_true', Bool.not_eq_false', Bool.and_eq_true, Bool.or_eq_true, beq_iff_eq, not_and, Int.not_le, Int.not_lt, Int.toNat_natCast, beq_eq_false_iff_ne, ne_eq, eq_self, not_true_eq_false, not_false_eq_true] at hb) <;> (conv => whnf))
        | (refine RegX.rule (id := 11) hT rfl [] [(0, []), (1, [0]), (2, [0, 1]), (3, [0, 1]), (8, [0, 1, 2, 3]), (9, [0, 1, 2, 3, 8]), (4, [0, 8, 9]), (5, [8, 9]), (6, [8, 9]), (7, [8, 9]), (10, [0, 5, 6, 7]), (11, []), (12, []), (13, []), (14, [])] (by decide +kernel) ?_; conv => whnf)
        | (refine RegX.rule (id := 16) hT rfl [] [(0, []), (1, [0]), (2, [0, 1]), (4, [0, 1, 2]), (5, [0, 1, 2, 4]), (7, [0, 1, 2, 4, 5]), (8, [0, 1, 2, 4, 5, 7]), (3, [0, 4, 5, 7, 8]), (6, [0, 7, 8]), (9, [0]), (10, [0]), (11, [0]), (12, []), (13, [])] (by decide +kernel) ?_; conv => whnf)
        | (refine RegX.rule (id := 23) hT rfl [] [(0, []), (1, [0]), (2, [0, 1]), (3, [0, 1, 2]), (4, [0, 1, 2]), (5, [0, 1, 2]), (6, [0, 1, 2]), (7, [0, 1, 2]), (9, [0, 1, 2, 3, 4, 5, 6, 7]), (8, [0, 1, 9]), (10, [0, 1]), (11, [1]), (12, [1]), (13, [1]), (14, []), (15, []), (16, [])] (by decide +kernel) ?_; conv => whnf)
        | omega
        | (refine And.intro ?_ ?_; ((try dsimp only); first | omega | (refine ⟨by omega, by omega, Int.le_trans (Int.mul_le_mul_of_nonneg_right (Int.ofNat_le.2 (Nat.le_of_ble_eq_true (rfl : Nat.ble _ 1024 = true))) (by omega)) (by omega), by omega⟩) | (refine Nat.le_trans (Nat.mul_le_mul_left _ (Nat.le_of_ble_eq_true (rfl : Nat.ble _ 1024 = true))) ?_; omega) | (unfold inI64; omega) | (constructor <;> omega) | (simp only [inI64, List.length_cons, List.length_append, List.length_nil, List.length_set] at *; omega) | decide | (unfold inI64; decide)); conv => whnf)
        | omega | decide | assumption)
      all_goals first
        | (first
             | refine .freeze _ 11 66 3 _ _ rfl (.weak _ ?_)
             | refine .freeze _ 200 66 3 _ _ rfl (.weak _ ?_)
             | refine .freeze _ 300 66 3 _ _ rfl (.weak _ ?_)
           (conv => whnf)
           have hx := hsh.2 (e.getD j.toNat mv0) (getD_mem (by omega))
           have hq1 := three_len hu1 hx.1 (by decide) (by decide)
           exact ⟨_, [(1000000, strm n L _)], SV.le_upd2 (f := mvF) (d := mv0) (l := e) (fun y : Mov => { y with a := u1 }) (fun y => { y with many := u3 }) (fun _ => rfl) (fun _ => rfl), ⟨⟨_, allK_upd (g := fun y : Mov => { y with many := u3 }) (allK_upd (g := fun y : Mov => { y with a := u1 }) hsh (fun y hy => ⟨hq1, hy.2⟩)) (fun y hy => hy), rfl⟩, _, by omega, by omega, rfl⟩, Res.le_refl _, trivial⟩)
        | (first
             | refine .freeze _ 11 66 3 _ _ rfl (.weak _ ?_)
             | refine .freeze _ 200 66 3 _ _ rfl (.weak _ ?_)
             | refine .freeze _ 300 66 3 _ _ rfl (.weak _ ?_)
           (conv => whnf)
           exact ⟨_, [(1000000, strm n L _)], SV.le_refl _, ⟨⟨e, hsh, rfl⟩, _, by omega, by omega, rfl⟩, Res.le_refl _, trivial⟩)
    · refine ⟨rfl, ?_⟩
      conv => whnf
      have hsh : allK mvG 5 e := ⟨by have := hc1.1; have := hc2.1; have := he1.1; omega, fun p hp => p4.2 p (hc1.2 p (hc2.2 p (he1.2 p hp)))⟩
      have he5 := hsh.1
      repeat' (first
        | (refine CallX.of (s84 n L hL _ ?_ ?_ _ ?_) [(1000000, 1000000)] rfl ⟨SV.le_refl _, SV.le_refl _, trivial⟩ ⟨Res.le_refl _, trivial⟩ rfl rfl ?_; rotate_right; rintro x rout ⟨⟨f, rfl⟩, ⟨c, c1, c2, rfl⟩⟩; refine ⟨rfl, ?_⟩; conv => whnf)
        | (refine CallX.of (s86 n L hL _ ?_ ?_ _ ?_) [(1000000, 1000000)] rfl ⟨SV.le_refl _, SV.le_refl _, trivial⟩ ⟨Res.le_refl _, trivial⟩ rfl rfl ?_; rotate_right; rintro x rout ⟨⟨j, hj1, hj2, hj3, rfl⟩, ⟨c, c1, c2, rfl⟩⟩; refine ⟨rfl, ?_⟩; conv => whnf)
        | (refine CallX.of (s15 n L hL _ ?_ ?_ [(e.getD j.toNat mv0).a, [], [122]] (by simp) (by simp)) [(1000000, 1000000)] rfl ⟨SV.le_refl _, SV.le_lit rfl rfl, trivial⟩ ⟨Res.le_refl _, trivial⟩ rfl rfl ?_; rotate_right; rintro x rout ⟨⟨u1, hu1, rfl⟩, ⟨c, c1, c2, rfl⟩⟩; refine ⟨rfl, ?_⟩; conv => whnf)
        | (refine CallX.of (s104 n L hL _ ?_ ?_ 1 20 ?_ ?_ ?_) [(1000000, 1000000)] rfl ⟨SV.le_refl _, SV.le_refl _, SV.le_refl _, trivial⟩ ⟨Res.le_refl _, trivial⟩ rfl rfl ?_; rotate_right; rintro x rout ⟨⟨u3, hk1, hk2, rfl⟩, ⟨c, c1, c2, rfl⟩⟩; refine ⟨rfl, ?_⟩; conv => whnf)
        | (refine br_intro (fun hb => ?_) (fun hb => ?_) <;> (try simp only [decide_eq_true_eq, decide_eq_false_iff_not, Bool.not_eq_true', Bool.not_eq_false', Bool.and_eq_true, Bool.or_eq_true, beq_iff_eq, not_and, Int.not_le, Int.not_lt, Int.toNat_natCast, beq_eq_false_iff_ne, ne_eq, eq_self, not_true_eq_false, not_false_eq_true] at hb) <;> (conv => whnf))
        | (refine RegX.rule (id := 11) hT rfl [] [(0, []), (1, [0]), (2, [0, 1]), (3, [0, 1]), (8, [0, 1, 2, 3]), (9, [0, 1, 2, 3, 8]), (4, [0, 8, 9]), (5, [8, 9]), (6, [8, 9]), (7, [8, 9]), (10, [0, 5, 6, 7]), (11, []), (12, []), (13, []), (14, [])] (by decide +kernel) ?_; conv => whnf)
        | (refine RegX.rule (id := 16) hT rfl [] [(0, []), (1, [0]), (2, [0, 1]), (4, [0, 1, 2]), (5, [0, 1, 2, 4]), (7, [0, 1, 2, 4, 5]), (8, [0, 1, 2, 4, 5, 7]), (3, [0, 4, 5, 7, 8]), (6, [0, 7, 8]), (9, [0]), (10, [0]), (11, [0]), (12, []), (13, [])] (by decide +kernel) ?_; conv => whnf)
        | (refine RegX.rule (id := 23) hT rfl [] [(0, []), (1, [0]), (2, [0, 1]), (3, [0, 1, 2]), (4, [0, 1, 2]), (5, [0, 1, 2]), (6, [0, 1, 2]), (7, [0, 1, 2]), (9, [0, 1, 2, 3, 4, 5, 6, 7]), (8, [0, 1, 9]), (10, [0, 1]), (11, [1]), (12, [1]), (13, [1]), (14, []), (15, []), (16, [])] (by decide +kernel) ?_; conv => whnf)
        | omega
        | (refine And.intro ?_ ?_; ((try dsimp only); first | omega | (refine ⟨by omega, by omega, Int.le_trans (Int.mul_le_mul_of_nonneg_right (Int.ofNat_le.2 (Nat.le_of_ble_eq_true (rfl : Nat.ble _ 1024 = true))) (by omega)) (by omega), by omega⟩) | (refine Nat.le_trans (Nat.mul_le_mul_left _ (Nat.le_of_ble_eq_true (rfl : Nat.ble _ 1024 = true))) ?_; omega) | (unfold inI64; omega) | (constructor <;> omega) | (simp only [inI64, List.length_cons, List.length_append, List.length_nil, List.length_set] at *; omega) | decide | (unfold inI64; decide)); conv => whnf)
        | omega | decide | assumption)
      all_goals first
        | (first
             | refine .freeze _ 11 66 3 _ _ rfl (.weak _ ?_)
             | refine .freeze _ 200 66 3 _ _ rfl (.weak _ ?_)
             | refine .freeze _ 300 66 3 _ _ rfl (.weak _ ?_)
           (conv => whnf)
           have hx := hsh.2 (e.getD j.toNat mv0) (getD_mem (by omega))
           have hq1 := three_len hu1 hx.1 (by decide) (by decide)
           exact ⟨_, [(1000000, strm n L _)], SV.le_upd2 (f := mvF) (d := mv0) (l := e) (fun y : Mov => { y with a := u1 }) (fun y => { y with many := u3 }) (fun _ => rfl) (fun _ => rfl), ⟨⟨_, allK_upd (g := fun y : Mov => { y with many := u3 }) (allK_upd (g := fun y : Mov => { y with a := u1 }) hsh (fun y hy => ⟨hq1, hy.2⟩)) (fun y hy => hy), rfl⟩, _, by omega, by omega, rfl⟩, Res.le_refl _, trivial⟩)
        | (first
             | refine .freeze _ 11 66 3 _ _ rfl (.weak _ ?_)
             | refine .freeze _ 200 66 3 _ _ rfl (.weak _ ?_)
             | refine .freeze _ 300 66 3 _ _ rfl (.weak _ ?_)
           (conv => whnf)
           exact ⟨_, [(1000000, strm n L _)], SV.le_refl _, ⟨⟨e, hsh, rfl⟩, _, by omega, by omega, rfl⟩, Res.le_refl _, trivial⟩)
  · refine ⟨rfl, ?_⟩
    conv => whnf
    refine CallX.of (z104 n L hL b (by omega) (by omega) c2 (by omega)) [(1000000, 1000000), (1000001, 200), (1000002, 3), (41, 300)] rfl ⟨SV.le_refl _, SV.le_refl _, trivial⟩ ⟨Res.le_refl _, Res.le_refl _, Res.le_refl _, trivial⟩ rfl rfl ?_
    rintro x rout ⟨e, he1, nm, hnm, rfl, c5, ⟨hv1, hv2⟩, rfl⟩
    rcases hnm with rfl | rfl
    · refine ⟨rfl, ?_⟩
      conv => whnf
      have hsh : allK mvG 5 e := ⟨by have := hc1.1; have := hc2.1; have := he1.1; omega, fun p hp => p4.2 p (hc1.2 p (hc2.2 p (he1.2 p hp)))⟩
      have he5 := hsh.1
      repeat' (first
        | (refine CallX.of (s84 n L hL _ ?_ ?_ _ ?_) [(1000000, 1000000)] rfl ⟨SV.le_refl _, SV.le_refl _, trivial⟩ ⟨Res.le_refl _, trivial⟩ rfl rfl ?_; rotate_right; rintro x rout ⟨⟨f, rfl⟩, ⟨c, c1, c2, rfl⟩⟩; refine ⟨rfl, ?_⟩; conv => whnf)
        | (refine CallX.of (s86 n L hL _ ?_ ?_ _ ?_) [(1000000, 1000000)] rfl ⟨SV.le_refl _, SV.le_refl _, trivial⟩ ⟨Res.le_refl _, trivial⟩ rfl rfl ?_; rotate_right; rintro x rout ⟨⟨j, hj1, hj2, hj3, rfl⟩, ⟨c, c1, c2, rfl⟩⟩; refine ⟨rfl, ?_⟩; conv => whnf)
        | (refine CallX.of (s15 n L hL _ ?_ ?_ [(e.getD j.toNat mv0).a, [], [122]] (by simp) (by simp)) [(1000000, 1000000)] rfl ⟨SV.le_refl _, SV.le_lit rfl rfl, trivial⟩ ⟨Res.le_refl _, trivial⟩ rfl rfl ?_; rotate_right; rintro x rout ⟨⟨u1, hu1, rfl⟩, ⟨c, c1, c2, rfl⟩⟩; refine ⟨rfl, ?_⟩; conv => whnf)
        | (refine CallX.of (s104 n L hL _ ?_ ?_ 1 20 ?_ ?_ ?_) [(1000000, 1000000)] rfl ⟨SV.le_refl _, SV.le_refl _, SV.le_refl _, trivial⟩ ⟨Res.le_refl _, trivial⟩ rfl rfl ?_; rotate_right; rintro x rout ⟨⟨u3, hk1, hk2, rfl⟩, ⟨c, c1, c2, rfl⟩⟩; refine ⟨rfl, ?_⟩; conv => whnf)
        | (refine br_intro (fun hb => ?_) (fun hb => ?_) <;> (try simp only [decide_eq_true_eq, decide_eq_false_iff_not, Bool.not_eq_true', Bool.not_eq_false', Bool.and_eq_true, Bool.or_eq_true, beq_iff_eq, not_and, Int.not_le, Int.not_lt, Int.toNat_natCast, beq_eq_false_iff_ne, ne_eq, eq_self, not_true_eq_false, not_false_eq_true] at hb) <;> (conv => whnf))
        | (refine RegX.rule (id := 11) hT rfl [] [(0, []), (1, [0]), (2, [0, 1]), (3, [0, 1]), (8, [0, 1, 2, 3]), (9, [0, 1, 2, 3, 8]), (4, [0, 8, 9]), (5, [8, 9]), (6, [8, 9]), (7, [8, 9]), (10, [0, 5, 6, 7]), (11, []), (12, []), (13, []), (14, [])] (by decide +kernel) ?_; conv => whnf)
        | (refine RegX.rule (id := 16) hT rfl [] [(0, []), (1, [0]), (2, [0, 1]), (4, [0, 1, 2]), (5, [0, 1, 2, 4]), (7, [0, 1, 2, 4, 5]), (8, [0, 1, 2, 4, 5, 7]), (3, [0, 4, 5, 7, 8]), (6, [0, 7, 8]), (9, [0]), (10, [0]), (11, [0]), (12, []), (13, [])] (by decide +kernel) ?_; conv => whnf)
        | (refine RegX.rule (id := 23) hT rfl [] [(0, []), (1, [0]), (2, [0, 1]), (3, [0, 1, 2]), (4, [0, 1, 2]), (5, [0, 1, 2]), (6, [0, 1, 2]), (7, [0, 1, 2]), (9, [0, 1, 2, 3, 4, 5, 6, 7]), (8, [0, 1, 9]), (10, [0, 1]), (11, [1]), (12, [1]), (13, [1]), (14, []), (15, []), (16, [])] (by decide +kernel) ?_; conv => whnf)
        | omega
        | (refine And.intro ?_ ?_; ((try dsimp only); first | omega | (refine ⟨by omega, by omega, Int.le_trans (Int.mul_le_mul_of_nonneg_right (Int.ofNat_le.2 (Nat.le_of_ble_eq_true (rfl : Nat.ble _ 1024 = true))) (by omega)) (by omega), by omega⟩) | (refine Nat.le_trans (Nat.mul_le_mul_left _ (Nat.le_of_ble_eq_true (rfl : Nat.ble _ 1024 = true))) ?_; omega) | (unfold inI64; omega) | (constructor <;> omega) | (simp only [inI64, List.length_cons, List.length_append, List.length_nil, List.length_set] at *; omega) | decide | (unfold inI64; decide)); conv => whnf)
        | omega | decide | assumption)
      all_goals first
        | (first
             | refine .freeze _ 11 66 3 _ _ rfl (.weak _ ?_)
             | refine .freeze _ 200 66 3 _ _ rfl (.weak _ ?_)
             | refine .freeze _ 300 66 3 _ _ rfl (.weak _ ?_)
           (conv => whnf)
           have hx := hsh.2 (e.getD j.toNat mv0) (getD_mem (by omega))
           have hq1 := three_len hu1 hx.1 (by decide) (by decide)
           exact ⟨_, [(1000000, strm n L _)], SV.le_upd2 (f := mvF) (d := mv0) (l := e) (fun y : Mov => { y with a := u1 }) (fun y => { y with many := u3 }) (fun _ => rfl) (fun _ => rfl), ⟨⟨_, allK_upd (g := fun y : Mov => { y with many := u3 }) (allK_upd (g := fun y : Mov => { y with a := u1 }) hsh (fun y hy => ⟨hq1, hy.2⟩)) (fun y hy => hy), rfl⟩, _, by omega, by omega, rfl⟩, Res.le_refl _, trivial⟩)
        | (first
             | refine .freeze _ 11 66 3 _ _ rfl (.weak _ ?_)
             | refine .freeze _ 200 66 3 _ _ rfl (.weak _ ?_)
             | refine .freeze _ 300 66 3 _ _ rfl (.weak _ ?_)
           (conv => whnf)
           exact ⟨_, [(1000000, strm n L _)], SV.le_refl _, ⟨⟨e, hsh, rfl⟩, _, by omega, by omega, rfl⟩, Res.le_refl _, trivial⟩)
    · refine ⟨rfl, ?_⟩
      conv => whnf
      have hsh : allK mvG 5 e := ⟨by have := hc1.1; have := hc2.1; have := he1.1; omega, fun p hp => p4.2 p (hc1.2 p (hc2.2 p (he1.2 p hp)))⟩
      have he5 := hsh.1
      repeat' (first
        | (refine CallX.of (s84 n L hL _ ?_ ?_ _ ?_) [(1000000, 1000000)] rfl ⟨SV.le_refl _, SV.le_refl _, trivial⟩ ⟨Res.le_refl _, trivial⟩ rfl rfl ?_; rotate_right; rintro x rout ⟨⟨f, rfl⟩, ⟨c, c1, c2, rfl⟩⟩; refine ⟨rfl, ?_⟩; conv => whnf)
        | (refine CallX.of (s86 n L hL _ ?_ ?_ _ ?_) [(1000000, 1000000)] rfl ⟨SV.le_refl _, SV.le_refl _, trivial⟩ ⟨Res.le_refl _, trivial⟩ rfl rfl ?_; rotate_right; rintro x rout ⟨⟨j, hj1, hj2, hj3, rfl⟩, ⟨c, c1, c2, rfl⟩⟩; refine ⟨rfl, ?_⟩; conv => whnf)
        | (refine CallX.of (s15 n L hL _ ?_ ?_ [(e.getD j.toNat mv0).a, [], [122]] (by simp) (by simp)) [(1000000, 1000000)] rfl ⟨SV.le_refl _, SV.le_lit rfl rfl, trivial⟩ ⟨Res.le_refl _, trivial⟩ rfl rfl ?_; rotate_right; rintro x rout ⟨⟨u1, hu1, rfl⟩, ⟨c, c1, c2, rfl⟩⟩; refine ⟨rfl, ?_⟩; conv => whnf)
        | (refine CallX.of (s104 n L hL _ ?_ ?_ 1 20 ?_ ?_ ?_) [(1000000, 1000000)] rfl ⟨SV.le_refl _, SV.le_refl _, SV.le_refl _, trivial⟩ ⟨Res.le_refl _, trivial⟩ rfl rfl ?_; rotate_right; rintro x rout ⟨⟨u3, hk1, hk2, rfl⟩, ⟨c, c1, c2, rfl⟩⟩; refine ⟨rfl, ?_⟩; conv => whnf)
        | (refine br_intro (fun hb => ?_) (fun hb => ?_) <;> (try simp only [decide_eq_true_eq, decide_eq_false_iff_not, Bool.not_eq_true', Bool.not_eq_false', Bool.and_eq_true, Bool.or_eq_true, beq_iff_eq, not_and, Int.not_le, Int.not_lt, Int.toNat_natCast, beq_eq_false_iff_ne, ne_eq, eq_self, not_true_eq_false, not_false_eq_true] at hb) <;> (conv => whnf))
        | (refine RegX.rule (id := 11) hT rfl [] [(0, []), (1, [0]), (2, [0, 1]), (3, [0, 1]), (8, [0, 1, 2, 3]), (9, [0, 1, 2, 3, 8]), (4, [0, 8, 9]), (5, [8, 9]), (6, [8, 9]), (7, [8, 9]), (10, [0, 5, 6, 7]), (11, []), (12, []), (13, []), (14, [])] (by decide +kernel) ?_; conv => whnf)
        | (refine RegX.rule (id := 16) hT rfl [] [(0, []), (1, [0]), (2, [0, 1]), (4, [0, 1, 2]), (5, [0, 1, 2, 4]), (7, [0, 1, 2, 4, 5]), (8, [0, 1, 2, 4, 5, 7]), (3, [0, 4, 5, 7, 8]), (6, [0, 7, 8]), (9, [0]), (10, [0]), (11, [0]), (12, []), (13, [])] (by decide +kernel) ?_; conv => whnf)
        | (refine RegX.rule (id := 23) hT rfl [] [(0, []), (1, [0]), (2, [0, 1]), (3, [0, 1, 2]), (4, [0, 1, 2]), (5, [0, 1, 2]), (6, [0, 1, 2]), (7, [0, 1, 2]), (9, [0, 1, 2, 3, 4, 5, 6, 7]), (8, [0, 1, 9]), (10, [0, 1]), (11, [1]), (12, [1]), (13, [1]), (14, []), (15, []), (16, [])] (by decide +kernel) ?_; conv => whnf)
        | omega
        | (refine And.intro ?_ ?_; ((try dsimp only); first | omega | (refine ⟨by omega, by omega, Int.le_trans (Int.mul_le_mul_of_nonneg_right (Int.ofNat_le.2 (Nat.le_of_ble_eq_true (rfl : Nat.ble _ 1024 = true))) (by omega)) (by omega), by omega⟩) | (refine Nat.le_trans (Nat.mul_le_mul_left _ (Nat.le_of_ble_eq_true (rfl : Nat.ble _ 1024 = true))) ?_; omega) | (unfold inI64; omega) | (constructor <;> omega) | (simp only [inI64, List.length_cons, List.length_append, List.length_nil, List.length_set] at *; omega) | decide | (unfold inI64; decide)); conv => whnf)
        | omega | decide | assumption)
      all_goals first
        | (first
             | refine .freeze _ 11 66 3 _ _ rfl (.weak _ ?_)
             | refine .freeze _ 200 66 3 _ _ rfl (.weak _ ?_)
             | refine .freeze _ 300 66 3 _ _ rfl (.weak _ ?_)
           (conv => whnf)
           have hx := hsh.2 (e.getD j.toNat mv0) (getD_mem (by omega))
           have hq1 := three_len hu1 hx.1 (by decide) (by decide)
           exact ⟨_, [(1000000, strm n L _)], SV.le_upd2 (f := mvF) (d := mv0) (l := e) (fun y : Mov => { y with a := u1 }) (fun y => { y with many := u3 }) (fun _ => rfl) (fun _ => rfl), ⟨⟨_, allK_upd (g := fun y : Mov => { y with many := u3 }) (allK_upd (g := fun y : Mov => { y with a := u1 }) hsh (fun y hy => ⟨hq1, hy.2⟩)) (fun y hy => hy), rfl⟩, _, by omega, by omega, rfl⟩, Res.le_refl _, trivial⟩)
        | (first
             | refine .freeze _ 11 66 3 _ _ rfl (.weak _ ?_)
             | refine .freeze _ 200 66 3 _ _ rfl (.weak _ ?_)
             | refine .freeze _ 300 66 3 _ _ rfl (.weak _ ?_)
           (conv => whnf)
           exact ⟨_, [(1000000, strm n L _)], SV.le_refl _, ⟨⟨e, hsh, rfl⟩, _, by omega, by omega, rfl⟩, Res.le_refl _, trivial⟩)
end Go.Proofs.YtnkdlkgannnfhaaGreatDoor
set_option maxRecDepth 20000
namespace Go.Proofs.YtnkdlkgannnfhaaGreatDoor
open Go Go.Eng
theorem LoopX.share {P : Program} {c : Code} {Q : Exit → St → Prop} {G : Prop} (σ : List Int → St) (pre : List Int → Prop) (main : (∀ a, pre a → LoopX P c Q (σ a)) → G) (tail : ∀ a, pre a → LoopX P c Q (σ a)) : G := main tail
-- RoundsCost
set_option maxHeartbeats 8000000 in
theorem z7 (n : Nat) (L : Nat → Int) (hn : n ≤ maxLen) (hl : ∀ i, -2^63 ≤ L i ∧ L i < 2^63) : FSpec Tryz.prog 7 [.d (.ro 1 n fun i => [.int .i64 (L i)])] [] (fun x r => x = .d (.bool true) ∧ r = []) := by
  have hL : Rok n L := ⟨hn, hl⟩
  refine spec_of hT (C := []) Tryz.func7 rfl Tryz.call7 rfl rfl rfl ?_
  conv => whnf
  repeat' (first
    | (refine CallX.of (sRds n L hL 0 (by omega) (by omega)) [(1000000, 27)] rfl ⟨SV.le_refl _, trivial⟩ ⟨Res.le_refl _, trivial⟩ rfl rfl ?_; rintro x rout ⟨⟨r, q1, rfl⟩, ⟨c, c1, c2, rfl⟩⟩; refine ⟨rfl, ?_⟩; conv => whnf)
    | (refine CallX.of (s15 n L hL _ ?_ ?_ [[97], [97], [98], [101], []] (by simp) (by simp)) [(1000000, 27)] rfl ⟨SV.le_refl _, SV.le_lit rfl rfl, trivial⟩ ⟨Res.le_refl _, trivial⟩ rfl rfl ?_; rotate_right; rintro x rout ⟨⟨st, hst0, rfl⟩, ⟨c, c1, c2, rfl⟩⟩; have hst := Nat.le_trans (mem_len hst0 rfl) (by decide : 8 ≤ 2^40); refine ⟨rfl, ?_⟩; conv => whnf)
    | (refine CallX.of (sMov n L hL c (by omega) (by omega)) [(1000000, 27)] rfl ⟨SV.le_refl _, SV.le_refl _, SV.le_refl _, trivial⟩ ⟨Res.le_refl _, trivial⟩ rfl rfl ?_; rintro x rout ⟨⟨m, q2, rfl⟩, ⟨c, c3, c4, rfl⟩⟩; refine ⟨rfl, ?_⟩; conv => whnf)
    | (refine br_intro (fun hb => ?_) (fun hb => ?_) <;> (try simp only [decide_eq_true_eq, decide_eq_false_iff_not, Bool.not_eq_true', Bool.not_eq_false', Bool.and_eq_true, Bool.or_eq_true, beq_iff_eq, not_and, Int.not_le, Int.not_lt, Int.toNat_natCast, beq_eq_false_iff_ne, ne_eq, eq_self, not_true_eq_false, not_false_eq_true] at hb) <;> (conv => whnf))
    | (refine RegX.rule (id := 16) hT rfl [] [(0, []), (1, [0]), (2, [0]), (3, [0]), (4, [0]), (5, [0, 4]), (6, [0, 4]), (7, [0]), (8, [0]), (10, [0, 1, 2, 3, 4, 5, 6, 7, 8]), (11, [0, 1, 2, 3, 4, 5, 6, 7, 8, 10]), (12, [0, 1, 2, 3, 4, 5, 6, 7, 8]), (13, [0, 1, 2, 3, 4, 5, 6, 7, 8, 10, 11, 12]), (9, [0, 10, 11, 12, 13]), (14, [0]), (15, [0]), (16, []), (17, []), (18, [])] (by decide +kernel) ?_; conv => whnf)
    | omega
    | (refine And.intro ?_ ?_; ((try dsimp only); first | omega | (refine ⟨by omega, by omega, Int.le_trans (Int.mul_le_mul_of_nonneg_right (Int.ofNat_le.2 (Nat.le_of_ble_eq_true (rfl : Nat.ble _ 1024 = true))) (by omega)) (by omega), by omega⟩) | (refine Nat.le_trans (Nat.mul_le_mul_left _ (Nat.le_of_ble_eq_true (rfl : Nat.ble _ 1024 = true))) ?_; omega) | (unfold inI64; omega) | (constructor <;> omega) | (simp only [inI64, List.length_cons, List.length_append, List.length_nil, List.length_set] at *; omega) | decide | (unfold inI64; decide)); conv => whnf)
    | omega | decide | assumption)
  have hr : rdOk r := ⟨by have := q1.1; omega, fun x hx => by have := q1.2 x hx; unfold rdS at this; exact ⟨by omega, by omega⟩⟩
  have hm : mvOk m := ⟨by have := q2.1; omega, fun x hx => by have := q2.2 x hx; unfold mvG at this; exact ⟨by omega, by omega⟩⟩
  have hm5 := q2.1
  refine CallX.of (sOrd n L hL c (by omega) (by omega) m.length (by omega)) [(1000000, 27), (5, 38)] rfl ⟨SV.le_refl _, SV.le_refl _, trivial⟩ ⟨Res.le_refl _, trivial⟩ rfl rfl ?_
  rintro x rout ⟨o, c, hol, c5, c6, rfl, rfl⟩
  refine ⟨rfl, ?_⟩
  have h56 := z56 r st m hr hst hm (by omega)
  have h21 := z21 r hr
  have h25 := z25 m hm
  have hK := s21 st hst
  have hbase : firstE [rdsE r, if (!isKeyB st) = true then 5 else 0, mvsE m] = drvE r st m := by unfold drvE; cases isKeyB st <;> rfl
  have hb0 := s17 [rdsE r, if (!isKeyB st) = true then 5 else 0, mvsE m] (by simp)
  rw [hbase] at hb0
  obtain ⟨P, N, F, hN, hcase⟩ : ∃ (P : List Int) (N F : Int), SV.le (nearT r st m) (.tup [.d (ints P), .d (.int .i64 N), .d (.int .i64 F)]) ∧ ((drvE r st m ≠ 0 ∧ P = [] ∧ N = 0 ∧ F = drvE r st m) ∨ (drvE r st m = 0 ∧ P = (nearV r st m).1 ∧ N = (nearV r st m).2.1 ∧ F = if (!(nearV r st m).2.2) = true then 8 else 0)) := by
    unfold nearT
    by_cases q : drvE r st m = 0
    · rw [if_neg (by omega)]
      have hF : (if (nearV r st m).2.2 = true then (0 : Int) else 8) = if (!(nearV r st m).2.2) = true then 8 else 0 := by cases (nearV r st m).2.2 <;> rfl
      rw [hF]
      exact ⟨_, _, _, SV.le_refl _, .inr ⟨q, rfl, rfl, rfl⟩⟩
    · rw [if_pos q]; exact ⟨[], _, _, SV.le_tup ⟨SV.le_nilS, SV.le_refl _, SV.le_refl _, trivial⟩, .inl ⟨q, rfl, rfl, rfl⟩⟩
  have h56 := h56.up hN
  refine' LoopX.share (P := Tryz.prog) (fun o' => mkSt [(4, .d (roas r)), (5, .d (.str st)), (6, .d (movs m)), (7, .buf 7), (8, .d (.int .i64 (if rcE r st m o' = 0 then (roundO r st m o').getD 0 else 0))), (9, .d (.int .i64 (rcE r st m o'))), (10, .d (ints P)), (11, .d (.int .i64 N)), (12, .d (.int .i64 F)), (13, .d (.int .i64 (drvE r st m))), (14, .d (.int .i64 (rcB r st m o'))), (99, .buf 7), (100, .d (.int .i64 o'.length)), (101, .d (.int .i64 0))] [(7, .fro 1 o'.length (rowF iF 0 o'))]) (fun o' => o'.length ≤ m.length + 1) ?main ?tail
  case main =>
    intro tail
    conv => whnf
    repeat' (first
      | (refine CallX.of (s84 n L hL _ ?_ ?_ _ ?_) [(1000000, 27)] rfl ⟨SV.le_refl _, SV.le_refl _, trivial⟩ ⟨Res.le_refl _, trivial⟩ rfl rfl ?_; rotate_right; rintro x rout ⟨⟨f, rfl⟩, ⟨c, c1, c2, rfl⟩⟩; refine ⟨rfl, ?_⟩; conv => whnf)
      | (refine CallX.of (s33 n L hL _ ?_ ?_ [-1, (m.length : Int), o.getD ((m.length : Int) - 1).toNat 0] (by simp) (by simp)) [(1000000, 27)] rfl ⟨SV.le_refl _, SV.le_lit rfl rfl, trivial⟩ ⟨Res.le_refl _, trivial⟩ rfl rfl ?_; rotate_right; rintro x rout ⟨⟨u, hu, rfl⟩, ⟨c, c1, c2, rfl⟩⟩; refine ⟨rfl, ?_⟩; conv => whnf)
      | (refine br_intro (fun hb => ?_) (fun hb => ?_) <;> (try simp only [decide_eq_true_eq, decide_eq_false_iff_not, Bool.not_eq_true', Bool.not_eq_false', Bool.and_eq_true, Bool.or_eq_true, beq_iff_eq, not_and, Int.not_le, Int.not_lt, Int.toNat_natCast, beq_eq_false_iff_ne, ne_eq, eq_self, not_true_eq_false, not_false_eq_true] at hb) <;> (conv => whnf))
      | (refine RegX.rule (id := 16) hT rfl [] [(0, []), (1, [0]), (2, [0]), (3, [0]), (4, [0]), (5, [0, 4]), (6, [0, 4]), (7, [0]), (8, [0]), (10, [0, 1, 2, 3, 4, 5, 6, 7, 8]), (11, [0, 1, 2, 3, 4, 5, 6, 7, 8, 10]), (12, [0, 1, 2, 3, 4, 5, 6, 7, 8]), (13, [0, 1, 2, 3, 4, 5, 6, 7, 8, 10, 11, 12]), (9, [0, 10, 11, 12, 13]), (14, [0]), (15, [0]), (16, []), (17, []), (18, [])] (by decide +kernel) ?_; conv => whnf)
      | omega
      | (refine And.intro ?_ ?_; ((try dsimp only); first | omega | (refine ⟨by omega, by omega, Int.le_trans (Int.mul_le_mul_of_nonneg_right (Int.ofNat_le.2 (Nat.le_of_ble_eq_true (rfl : Nat.ble _ 1024 = true))) (by omega)) (by omega), by omega⟩) | (refine Nat.le_trans (Nat.mul_le_mul_left _ (Nat.le_of_ble_eq_true (rfl : Nat.ble _ 1024 = true))) ?_; omega) | (unfold inI64; omega) | (constructor <;> omega) | (simp only [inI64, List.length_cons, List.length_append, List.length_nil, List.length_set] at *; omega) | decide | (unfold inI64; decide)); conv => whnf)
      | omega | decide | assumption)
    · obtain ⟨o', ho', hol', hg⟩ : ∃ o' : List Int, o'.length ≤ m.length + 1 ∧ o'.length = o.length + 1 ∧ ∀ i, i < o.length + 1 → (appGet o.length (fun i => bif Nat.beq i 0 then setAtD (rowF iF 0 o i) 0 [.int .i64 u] else rowF iF 0 o i) (fun i => [[DV.int .i64 0]].getD i [])) i = rowF iF 0 o' i := ⟨_, by simp; omega, by simp, rows_put_snoc (x := u) (y := 0) (fun _ => rfl) rfl⟩
      have hKo : o.length + 1 = o'.length := hol'.symm
      refine CallX.freeze _ _ _ _ 63 3 1 _ _ rfl rfl ?_
      have hle := SV.le_ro (k := 1) hKo hg
      have hKI := congrArg (fun z : Nat => (z : Int)) hKo
      have h55 := z55 r st m o' hr hst hm (by omega) (by omega)
      have hb1 := s17 [drvE r st m, if (!decide ((o'.length : Int) = (m.length : Int))) = true then 3 else 0] (by simp)
      rw [show firstE [drvE r st m, if (!decide ((o'.length : Int) = (m.length : Int))) = true then 3 else 0] = rcB r st m o' from by
        unfold rcB
        by_cases q : o'.length = m.length
        · rw [if_pos q, decide_eq_true (by omega)]; rfl
        · rw [if_neg q, decide_eq_false (by omega)]; rfl] at hb1
      rw [hol'] at hb1
      obtain ⟨V, hV⟩ : ∃ V : Int, V = if rcE r st m o' = 0 then (roundO r st m o').getD 0 else 0 := ⟨_, rfl⟩
      obtain ⟨E, hE⟩ : ∃ E : Int, E = rcE r st m o' := ⟨_, rfl⟩
      rw [← hV, ← hE] at h55
      refine CallX.of h55 [] rfl ⟨SV.le_refl _, SV.le_refl _, SV.le_refl _, hle, trivial⟩ trivial rfl rfl ?_
      rintro x rout ⟨rfl, rfl⟩
      refine ⟨rfl, ?_⟩
      conv => whnf
      repeat' (first
        | (refine CallX.exact (h56) rfl rfl ?_; rotate_right; conv => whnf)
        | (refine CallX.exact (h21) rfl rfl ?_; rotate_right; conv => whnf)
        | (refine CallX.exact (h25) rfl rfl ?_; rotate_right; conv => whnf)
        | (refine CallX.exact (hK) rfl rfl ?_; rotate_right; conv => whnf)
        | (refine CallX.exact (s20 _ _) rfl rfl ?_; rotate_right; conv => whnf)
        | (refine CallX.pure hb0 ⟨SV.le_lit (by rfl) (by rfl), trivial⟩ rfl ?_; conv => whnf)
        | (refine CallX.pure hb1 ⟨SV.le_lit (by rfl) (by rfl), trivial⟩ rfl ?_; conv => whnf)
        | (refine br_intro (fun hb => ?_) (fun hb => ?_) <;> (try simp only [decide_eq_true_eq, decide_eq_false_iff_not, Bool.not_eq_true', Bool.not_eq_false', Bool.and_eq_true, Bool.or_eq_true, beq_iff_eq, not_and, Int.not_le, Int.not_lt, Int.toNat_natCast, beq_eq_false_iff_ne, ne_eq, eq_self, not_true_eq_false, not_false_eq_true] at hb) <;> (conv => whnf))
        | (refine RegX.rule (id := 16) hT rfl [] [(0, []), (1, [0]), (2, [0]), (3, [0]), (4, [0]), (5, [0, 4]), (6, [0, 4]), (7, [0]), (8, [0]), (10, [0, 1, 2, 3, 4, 5, 6, 7, 8]), (11, [0, 1, 2, 3, 4, 5, 6, 7, 8, 10]), (12, [0, 1, 2, 3, 4, 5, 6, 7, 8]), (13, [0, 1, 2, 3, 4, 5, 6, 7, 8, 10, 11, 12]), (9, [0, 10, 11, 12, 13]), (14, [0]), (15, [0]), (16, []), (17, []), (18, [])] (by decide +kernel) ?_; conv => whnf)
        | omega
        | (refine And.intro ?_ ?_; ((try dsimp only); first | omega | (refine ⟨by omega, by omega, Int.le_trans (Int.mul_le_mul_of_nonneg_right (Int.ofNat_le.2 (Nat.le_of_ble_eq_true (rfl : Nat.ble _ 1024 = true))) (by omega)) (by omega), by omega⟩) | (refine Nat.le_trans (Nat.mul_le_mul_left _ (Nat.le_of_ble_eq_true (rfl : Nat.ble _ 1024 = true))) ?_; omega) | (unfold inI64; omega) | (constructor <;> omega) | (simp only [inI64, List.length_cons, List.length_append, List.length_nil, List.length_set] at *; omega) | decide | (unfold inI64; decide)); conv => whnf)
        | omega | decide | assumption)
      refine LoopX.ent ?_ (tail o' ho')
      first
        | exact (Entails.mk' [(7, 63)] rfl rfl ⟨SV.le_refl _, SV.le_refl _, SV.le_refl _, SV.le_refl _, SV.le_int hV, SV.le_int hE, SV.le_refl _, SV.le_refl _, SV.le_refl _, SV.le_refl _, SV.le_refl _, SV.le_refl _, SV.le_int hKI, SV.le_refl _, trivial⟩ ⟨Res.le_fro hKo hg, trivial⟩)
        | exact (Entails.mk' [(7, 38)] rfl rfl ⟨SV.le_refl _, SV.le_refl _, SV.le_refl _, SV.le_refl _, SV.le_int hV, SV.le_int hE, SV.le_refl _, SV.le_refl _, SV.le_refl _, SV.le_refl _, SV.le_refl _, SV.le_refl _, SV.le_int hKI, SV.le_refl _, trivial⟩ ⟨Res.le_fro hKo hg, trivial⟩)
    · obtain ⟨o', ho', hol', hg⟩ : ∃ o' : List Int, o'.length ≤ m.length + 1 ∧ o'.length = o.length ∧ ∀ i, i < o.length → (fun i => bif Nat.beq i 0 then setAtD (rowF iF 0 o i) 0 [.int .i64 u] else rowF iF 0 o i) i = rowF iF 0 o' i := ⟨_, by simp; omega, by simp, rows_putF (x := u) (fun _ _ => rfl)⟩
      have hKo : o.length = o'.length := hol'.symm
      refine CallX.freeze _ _ _ _ 38 3 1 _ _ rfl rfl ?_
      have hle := SV.le_ro (k := 1) hKo hg
      have hKI := congrArg (fun z : Nat => (z : Int)) hKo
      have h55 := z55 r st m o' hr hst hm (by omega) (by omega)
      have hb1 := s17 [drvE r st m, if (!decide ((o'.length : Int) = (m.length : Int))) = true then 3 else 0] (by simp)
      rw [show firstE [drvE r st m, if (!decide ((o'.length : Int) = (m.length : Int))) = true then 3 else 0] = rcB r st m o' from by
        unfold rcB
        by_cases q : o'.length = m.length
        · rw [if_pos q, decide_eq_true (by omega)]; rfl
        · rw [if_neg q, decide_eq_false (by omega)]; rfl] at hb1
      rw [hol'] at hb1
      obtain ⟨V, hV⟩ : ∃ V : Int, V = if rcE r st m o' = 0 then (roundO r st m o').getD 0 else 0 := ⟨_, rfl⟩
      obtain ⟨E, hE⟩ : ∃ E : Int, E = rcE r st m o' := ⟨_, rfl⟩
      rw [← hV, ← hE] at h55
      refine CallX.of h55 [] rfl ⟨SV.le_refl _, SV.le_refl _, SV.le_refl _, hle, trivial⟩ trivial rfl rfl ?_
      rintro x rout ⟨rfl, rfl⟩
      refine ⟨rfl, ?_⟩
      conv => whnf
      repeat' (first
        | (refine CallX.exact (h56) rfl rfl ?_; rotate_right; conv => whnf)
        | (refine CallX.exact (h21) rfl rfl ?_; rotate_right; conv => whnf)
        | (refine CallX.exact (h25) rfl rfl ?_; rotate_right; conv => whnf)
        | (refine CallX.exact (hK) rfl rfl ?_; rotate_right; conv => whnf)
        | (refine CallX.exact (s20 _ _) rfl rfl ?_; rotate_right; conv => whnf)
        | (refine CallX.pure hb0 ⟨SV.le_lit (by rfl) (by rfl), trivial⟩ rfl ?_; conv => whnf)
        | (refine CallX.pure hb1 ⟨SV.le_lit (by rfl) (by rfl), trivial⟩ rfl ?_; conv => whnf)
        | (refine br_intro (fun hb => ?_) (fun hb => ?_) <;> (try simp only [decide_eq_true_eq, decide_eq_false_iff_not, Bool.not_eq_true', Bool.not_eq_false', Bool.and_eq_true, Bool.or_eq_true, beq_iff_eq, not_and, Int.not_le, Int.not_lt, Int.toNat_natCast, beq_eq_false_iff_ne, ne_eq, eq_self, not_true_eq_false, not_false_eq_true] at hb) <;> (conv => whnf))
        | (refine RegX.rule (id := 16) hT rfl [] [(0, []), (1, [0]), (2, [0]), (3, [0]), (4, [0]), (5, [0, 4]), (6, [0, 4]), (7, [0]), (8, [0]), (10, [0, 1, 2, 3, 4, 5, 6, 7, 8]), (11, [0, 1, 2, 3, 4, 5, 6, 7, 8, 10]), (12, [0, 1, 2, 3, 4, 5, 6, 7, 8]), (13, [0, 1, 2, 3, 4, 5, 6, 7, 8, 10, 11, 12]), (9, [0, 10, 11, 12, 13]), (14, [0]), (15, [0]), (16, []), (17, []), (18, [])] (by decide +kernel) ?_; conv => whnf)
        | omega
        | (refine And.intro ?_ ?_; ((try dsimp only); first | omega | (refine ⟨by omega, by omega, Int.le_trans (Int.mul_le_mul_of_nonneg_right (Int.ofNat_le.2 (Nat.le_of_ble_eq_true (rfl : Nat.ble _ 1024 = true))) (by omega)) (by omega), by omega⟩) | (refine Nat.le_trans (Nat.mul_le_mul_left _ (Nat.le_of_ble_eq_true (rfl : Nat.ble _ 1024 = true))) ?_; omega) | (unfold inI64; omega) | (constructor <;> omega) | (simp only [inI64, List.length_cons, List.length_append, List.length_nil, List.length_set] at *; omega) | decide | (unfold inI64; decide)); conv => whnf)
        | omega | decide | assumption)
      refine LoopX.ent ?_ (tail o' ho')
      first
        | exact (Entails.mk' [(7, 63)] rfl rfl ⟨SV.le_refl _, SV.le_refl _, SV.le_refl _, SV.le_refl _, SV.le_int hV, SV.le_int hE, SV.le_refl _, SV.le_refl _, SV.le_refl _, SV.le_refl _, SV.le_refl _, SV.le_refl _, SV.le_int hKI, SV.le_refl _, trivial⟩ ⟨Res.le_fro hKo hg, trivial⟩)
        | exact (Entails.mk' [(7, 38)] rfl rfl ⟨SV.le_refl _, SV.le_refl _, SV.le_refl _, SV.le_refl _, SV.le_int hV, SV.le_int hE, SV.le_refl _, SV.le_refl _, SV.le_refl _, SV.le_refl _, SV.le_refl _, SV.le_refl _, SV.le_int hKI, SV.le_refl _, trivial⟩ ⟨Res.le_fro hKo hg, trivial⟩)
    · obtain ⟨o', ho', hol', hg⟩ : ∃ o' : List Int, o'.length ≤ m.length + 1 ∧ o'.length = o.length + 1 ∧ ∀ i, i < o.length + 1 → (appGet o.length (rowF iF 0 o) (fun i => [[DV.int .i64 0]].getD i [])) i = rowF iF 0 o' i := ⟨_, by simp; omega, by simp, rows_snocF (x := 0) rfl⟩
      have hKo : o.length + 1 = o'.length := hol'.symm
      refine CallX.freeze _ _ _ _ 63 3 1 _ _ rfl rfl ?_
      have hle := SV.le_ro (k := 1) hKo hg
      have hKI := congrArg (fun z : Nat => (z : Int)) hKo
      have h55 := z55 r st m o' hr hst hm (by omega) (by omega)
      have hb1 := s17 [drvE r st m, if (!decide ((o'.length : Int) = (m.length : Int))) = true then 3 else 0] (by simp)
      rw [show firstE [drvE r st m, if (!decide ((o'.length : Int) = (m.length : Int))) = true then 3 else 0] = rcB r st m o' from by
        unfold rcB
        by_cases q : o'.length = m.length
        · rw [if_pos q, decide_eq_true (by omega)]; rfl
        · rw [if_neg q, decide_eq_false (by omega)]; rfl] at hb1
      rw [hol'] at hb1
      obtain ⟨V, hV⟩ : ∃ V : Int, V = if rcE r st m o' = 0 then (roundO r st m o').getD 0 else 0 := ⟨_, rfl⟩
      obtain ⟨E, hE⟩ : ∃ E : Int, E = rcE r st m o' := ⟨_, rfl⟩
      rw [← hV, ← hE] at h55
      refine CallX.of h55 [] rfl ⟨SV.le_refl _, SV.le_refl _, SV.le_refl _, hle, trivial⟩ trivial rfl rfl ?_
      rintro x rout ⟨rfl, rfl⟩
      refine ⟨rfl, ?_⟩
      conv => whnf
      repeat' (first
        | (refine CallX.exact (h56) rfl rfl ?_; rotate_right; conv => whnf)
        | (refine CallX.exact (h21) rfl rfl ?_; rotate_right; conv => whnf)
        | (refine CallX.exact (h25) rfl rfl ?_; rotate_right; conv => whnf)
        | (refine CallX.exact (hK) rfl rfl ?_; rotate_right; conv => whnf)
        | (refine CallX.exact (s20 _ _) rfl rfl ?_; rotate_right; conv => whnf)
        | (refine CallX.pure hb0 ⟨SV.le_lit (by rfl) (by rfl), trivial⟩ rfl ?_; conv => whnf)
        | (refine CallX.pure hb1 ⟨SV.le_lit (by rfl) (by rfl), trivial⟩ rfl ?_; conv => whnf)
        | (refine br_intro (fun hb => ?_) (fun hb => ?_) <;> (try simp only [decide_eq_true_eq, decide_eq_false_iff_not, Bool.not_eq_true', Bool.not_eq_false', Bool.and_eq_true, Bool.or_eq_true, beq_iff_eq, not_and, Int.not_le, Int.not_lt, Int.toNat_natCast, beq_eq_false_iff_ne, ne_eq, eq_self, not_true_eq_false, not_false_eq_true] at hb) <;> (conv => whnf))
        | (refine RegX.rule (id := 16) hT rfl [] [(0, []), (1, [0]), (2, [0]), (3, [0]), (4, [0]), (5, [0, 4]), (6, [0, 4]), (7, [0]), (8, [0]), (10, [0, 1, 2, 3, 4, 5, 6, 7, 8]), (11, [0, 1, 2, 3, 4, 5, 6, 7, 8, 10]), (12, [0, 1, 2, 3, 4, 5, 6, 7, 8]), (13, [0, 1, 2, 3, 4, 5, 6, 7, 8, 10, 11, 12]), (9, [0, 10, 11, 12, 13]), (14, [0]), (15, [0]), (16, []), (17, []), (18, [])] (by decide +kernel) ?_; conv => whnf)
        | omega
        | (refine And.intro ?_ ?_; ((try dsimp only); first | omega | (refine ⟨by omega, by omega, Int.le_trans (Int.mul_le_mul_of_nonneg_right (Int.ofNat_le.2 (Nat.le_of_ble_eq_true (rfl : Nat.ble _ 1024 = true))) (by omega)) (by omega), by omega⟩) | (refine Nat.le_trans (Nat.mul_le_mul_left _ (Nat.le_of_ble_eq_true (rfl : Nat.ble _ 1024 = true))) ?_; omega) | (unfold inI64; omega) | (constructor <;> omega) | (simp only [inI64, List.length_cons, List.length_append, List.length_nil, List.length_set] at *; omega) | decide | (unfold inI64; decide)); conv => whnf)
        | omega | decide | assumption)
      refine LoopX.ent ?_ (tail o' ho')
      first
        | exact (Entails.mk' [(7, 63)] rfl rfl ⟨SV.le_refl _, SV.le_refl _, SV.le_refl _, SV.le_refl _, SV.le_int hV, SV.le_int hE, SV.le_refl _, SV.le_refl _, SV.le_refl _, SV.le_refl _, SV.le_refl _, SV.le_refl _, SV.le_int hKI, SV.le_refl _, trivial⟩ ⟨Res.le_fro hKo hg, trivial⟩)
        | exact (Entails.mk' [(7, 38)] rfl rfl ⟨SV.le_refl _, SV.le_refl _, SV.le_refl _, SV.le_refl _, SV.le_int hV, SV.le_int hE, SV.le_refl _, SV.le_refl _, SV.le_refl _, SV.le_refl _, SV.le_refl _, SV.le_refl _, SV.le_int hKI, SV.le_refl _, trivial⟩ ⟨Res.le_fro hKo hg, trivial⟩)
    · obtain ⟨o', ho', hol', hg⟩ : ∃ o' : List Int, o'.length ≤ m.length + 1 ∧ o'.length = o.length ∧ ∀ i, i < o.length → (rowF iF 0 o) i = rowF iF 0 o' i := ⟨o, by omega, rfl, fun _ _ => rfl⟩
      have hKo : o.length = o'.length := hol'.symm
      refine CallX.freeze _ _ _ _ 38 3 1 _ _ rfl rfl ?_
      have hle := SV.le_ro (k := 1) hKo hg
      have hKI := congrArg (fun z : Nat => (z : Int)) hKo
      have h55 := z55 r st m o' hr hst hm (by omega) (by omega)
      have hb1 := s17 [drvE r st m, if (!decide ((o'.length : Int) = (m.length : Int))) = true then 3 else 0] (by simp)
      rw [show firstE [drvE r st m, if (!decide ((o'.length : Int) = (m.length : Int))) = true then 3 else 0] = rcB r st m o' from by
        unfold rcB
        by_cases q : o'.length = m.length
        · rw [if_pos q, decide_eq_true (by omega)]; rfl
        · rw [if_neg q, decide_eq_false (by omega)]; rfl] at hb1
      rw [hol'] at hb1
      obtain ⟨V, hV⟩ : ∃ V : Int, V = if rcE r st m o' = 0 then (roundO r st m o').getD 0 else 0 := ⟨_, rfl⟩
      obtain ⟨E, hE⟩ : ∃ E : Int, E = rcE r st m o' := ⟨_, rfl⟩
      rw [← hV, ← hE] at h55
      refine CallX.of h55 [] rfl ⟨SV.le_refl _, SV.le_refl _, SV.le_refl _, hle, trivial⟩ trivial rfl rfl ?_
      rintro x rout ⟨rfl, rfl⟩
      refine ⟨rfl, ?_⟩
      conv => whnf
      repeat' (first
        | (refine CallX.exact (h56) rfl rfl ?_; rotate_right; conv => whnf)
        | (refine CallX.exact (h21) rfl rfl ?_; rotate_right; conv => whnf)
        | (refine CallX.exact (h25) rfl rfl ?_; rotate_right; conv => whnf)
        | (refine CallX.exact (hK) rfl rfl ?_; rotate_right; conv => whnf)
        | (refine CallX.exact (s20 _ _) rfl rfl ?_; rotate_right; conv => whnf)
        | (refine CallX.pure hb0 ⟨SV.le_lit (by rfl) (by rfl), trivial⟩ rfl ?_; conv => whnf)
        | (refine CallX.pure hb1 ⟨SV.le_lit (by rfl) (by rfl), trivial⟩ rfl ?_; conv => whnf)
        | (refine br_intro (fun hb => ?_) (fun hb => ?_) <;> (try simp only [decide_eq_true_eq, decide_eq_false_iff_not, Bool.not_eq_true', Bool.not_eq_false', Bool.and_eq_true, Bool.or_eq_true, beq_iff_eq, not_and, Int.not_le, Int.not_lt, Int.toNat_natCast, beq_eq_false_iff_ne, ne_eq, eq_self, not_true_eq_false, not_false_eq_true] at hb) <;> (conv => whnf))
        | (refine RegX.rule (id := 16) hT rfl [] [(0, []), (1, [0]), (2, [0]), (3, [0]), (4, [0]), (5, [0, 4]), (6, [0, 4]), (7, [0]), (8, [0]), (10, [0, 1, 2, 3, 4, 5, 6, 7, 8]), (11, [0, 1, 2, 3, 4, 5, 6, 7, 8, 10]), (12, [0, 1, 2, 3, 4, 5, 6, 7, 8]), (13, [0, 1, 2, 3, 4, 5, 6, 7, 8, 10, 11, 12]), (9, [0, 10, 11, 12, 13]), (14, [0]), (15, [0]), (16, []), (17, []), (18, [])] (by decide +kernel) ?_; conv => whnf)
        | omega
        | (refine And.intro ?_ ?_; ((try dsimp only); first | omega | (refine ⟨by omega, by omega, Int.le_trans (Int.mul_le_mul_of_nonneg_right (Int.ofNat_le.2 (Nat.le_of_ble_eq_true (rfl : Nat.ble _ 1024 = true))) (by omega)) (by omega), by omega⟩) | (refine Nat.le_trans (Nat.mul_le_mul_left _ (Nat.le_of_ble_eq_true (rfl : Nat.ble _ 1024 = true))) ?_; omega) | (unfold inI64; omega) | (constructor <;> omega) | (simp only [inI64, List.length_cons, List.length_append, List.length_nil, List.length_set] at *; omega) | decide | (unfold inI64; decide)); conv => whnf)
        | omega | decide | assumption)
      refine LoopX.ent ?_ (tail o' ho')
      first
        | exact (Entails.mk' [(7, 63)] rfl rfl ⟨SV.le_refl _, SV.le_refl _, SV.le_refl _, SV.le_refl _, SV.le_int hV, SV.le_int hE, SV.le_refl _, SV.le_refl _, SV.le_refl _, SV.le_refl _, SV.le_refl _, SV.le_refl _, SV.le_int hKI, SV.le_refl _, trivial⟩ ⟨Res.le_fro hKo hg, trivial⟩)
        | exact (Entails.mk' [(7, 38)] rfl rfl ⟨SV.le_refl _, SV.le_refl _, SV.le_refl _, SV.le_refl _, SV.le_int hV, SV.le_int hE, SV.le_refl _, SV.le_refl _, SV.le_refl _, SV.le_refl _, SV.le_refl _, SV.le_refl _, SV.le_int hKI, SV.le_refl _, trivial⟩ ⟨Res.le_fro hKo hg, trivial⟩)
    · obtain ⟨o', ho', hol', hg⟩ : ∃ o' : List Int, o'.length ≤ m.length + 1 ∧ o'.length = o.length + 1 ∧ ∀ i, i < o.length + 1 → (appGet o.length (rowF iF 0 o) (fun i => [[DV.int .i64 0]].getD i [])) i = rowF iF 0 o' i := ⟨_, by simp; omega, by simp, rows_snocF (x := 0) rfl⟩
      have hKo : o.length + 1 = o'.length := hol'.symm
      refine CallX.freeze _ _ _ _ 63 3 1 _ _ rfl rfl ?_
      have hle := SV.le_ro (k := 1) hKo hg
      have hKI := congrArg (fun z : Nat => (z : Int)) hKo
      have h55 := z55 r st m o' hr hst hm (by omega) (by omega)
      have hb1 := s17 [drvE r st m, if (!decide ((o'.length : Int) = (m.length : Int))) = true then 3 else 0] (by simp)
      rw [show firstE [drvE r st m, if (!decide ((o'.length : Int) = (m.length : Int))) = true then 3 else 0] = rcB r st m o' from by
        unfold rcB
        by_cases q : o'.length = m.length
        · rw [if_pos q, decide_eq_true (by omega)]; rfl
        · rw [if_neg q, decide_eq_false (by omega)]; rfl] at hb1
      rw [hol'] at hb1
      obtain ⟨V, hV⟩ : ∃ V : Int, V = if rcE r st m o' = 0 then (roundO r st m o').getD 0 else 0 := ⟨_, rfl⟩
      obtain ⟨E, hE⟩ : ∃ E : Int, E = rcE r st m o' := ⟨_, rfl⟩
      rw [← hV, ← hE] at h55
      refine CallX.of h55 [] rfl ⟨SV.le_refl _, SV.le_refl _, SV.le_refl _, hle, trivial⟩ trivial rfl rfl ?_
      rintro x rout ⟨rfl, rfl⟩
      refine ⟨rfl, ?_⟩
      conv => whnf
      repeat' (first
        | (refine CallX.exact (h56) rfl rfl ?_; rotate_right; conv => whnf)
        | (refine CallX.exact (h21) rfl rfl ?_; rotate_right; conv => whnf)
        | (refine CallX.exact (h25) rfl rfl ?_; rotate_right; conv => whnf)
        | (refine CallX.exact (hK) rfl rfl ?_; rotate_right; conv => whnf)
        | (refine CallX.exact (s20 _ _) rfl rfl ?_; rotate_right; conv => whnf)
        | (refine CallX.pure hb0 ⟨SV.le_lit (by rfl) (by rfl), trivial⟩ rfl ?_; conv => whnf)
        | (refine CallX.pure hb1 ⟨SV.le_lit (by rfl) (by rfl), trivial⟩ rfl ?_; conv => whnf)
        | (refine br_intro (fun hb => ?_) (fun hb => ?_) <;> (try simp only [decide_eq_true_eq, decide_eq_false_iff_not, Bool.not_eq_true', Bool.not_eq_false', Bool.and_eq_true, Bool.or_eq_true, beq_iff_eq, not_and, Int.not_le, Int.not_lt, Int.toNat_natCast, beq_eq_false_iff_ne, ne_eq, eq_self, not_true_eq_false, not_false_eq_true] at hb) <;> (conv => whnf))
        | (refine RegX.rule (id := 16) hT rfl [] [(0, []), (1, [0]), (2, [0]), (3, [0]), (4, [0]), (5, [0, 4]), (6, [0, 4]), (7, [0]), (8, [0]), (10, [0, 1, 2, 3, 4, 5, 6, 7, 8]), (11, [0, 1, 2, 3, 4, 5, 6, 7, 8, 10]), (12, [0, 1, 2, 3, 4, 5, 6, 7, 8]), (13, [0, 1, 2, 3, 4, 5, 6, 7, 8, 10, 11, 12]), (9, [0, 10, 11, 12, 13]), (14, [0]), (15, [0]), (16, []), (17, []), (18, [])] (by decide +kernel) ?_; conv => whnf)
        | omega
        | (refine And.intro ?_ ?_; ((try dsimp only); first | omega | (refine ⟨by omega, by omega, Int.le_trans (Int.mul_le_mul_of_nonneg_right (Int.ofNat_le.2 (Nat.le_of_ble_eq_true (rfl : Nat.ble _ 1024 = true))) (by omega)) (by omega), by omega⟩) | (refine Nat.le_trans (Nat.mul_le_mul_left _ (Nat.le_of_ble_eq_true (rfl : Nat.ble _ 1024 = true))) ?_; omega) | (unfold inI64; omega) | (constructor <;> omega) | (simp only [inI64, List.length_cons, List.length_append, List.length_nil, List.length_set] at *; omega) | decide | (unfold inI64; decide)); conv => whnf)
        | omega | decide | assumption)
      refine LoopX.ent ?_ (tail o' ho')
      first
        | exact (Entails.mk' [(7, 63)] rfl rfl ⟨SV.le_refl _, SV.le_refl _, SV.le_refl _, SV.le_refl _, SV.le_int hV, SV.le_int hE, SV.le_refl _, SV.le_refl _, SV.le_refl _, SV.le_refl _, SV.le_refl _, SV.le_refl _, SV.le_int hKI, SV.le_refl _, trivial⟩ ⟨Res.le_fro hKo hg, trivial⟩)
        | exact (Entails.mk' [(7, 38)] rfl rfl ⟨SV.le_refl _, SV.le_refl _, SV.le_refl _, SV.le_refl _, SV.le_int hV, SV.le_int hE, SV.le_refl _, SV.le_refl _, SV.le_refl _, SV.le_refl _, SV.le_refl _, SV.le_refl _, SV.le_int hKI, SV.le_refl _, trivial⟩ ⟨Res.le_fro hKo hg, trivial⟩)
    · obtain ⟨o', ho', hol', hg⟩ : ∃ o' : List Int, o'.length ≤ m.length + 1 ∧ o'.length = o.length ∧ ∀ i, i < o.length → (rowF iF 0 o) i = rowF iF 0 o' i := ⟨o, by omega, rfl, fun _ _ => rfl⟩
      have hKo : o.length = o'.length := hol'.symm
      refine CallX.freeze _ _ _ _ 38 3 1 _ _ rfl rfl ?_
      have hle := SV.le_ro (k := 1) hKo hg
      have hKI := congrArg (fun z : Nat => (z : Int)) hKo
      have h55 := z55 r st m o' hr hst hm (by omega) (by omega)
      have hb1 := s17 [drvE r st m, if (!decide ((o'.length : Int) = (m.length : Int))) = true then 3 else 0] (by simp)
      rw [show firstE [drvE r st m, if (!decide ((o'.length : Int) = (m.length : Int))) = true then 3 else 0] = rcB r st m o' from by
        unfold rcB
        by_cases q : o'.length = m.length
        · rw [if_pos q, decide_eq_true (by omega)]; rfl
        · rw [if_neg q, decide_eq_false (by omega)]; rfl] at hb1
      rw [hol'] at hb1
      obtain ⟨V, hV⟩ : ∃ V : Int, V = if rcE r st m o' = 0 then (roundO r st m o').getD 0 else 0 := ⟨_, rfl⟩
      obtain ⟨E, hE⟩ : ∃ E : Int, E = rcE r st m o' := ⟨_, rfl⟩
      rw [← hV, ← hE] at h55
      refine CallX.of h55 [] rfl ⟨SV.le_refl _, SV.le_refl _, SV.le_refl _, hle, trivial⟩ trivial rfl rfl ?_
      rintro x rout ⟨rfl, rfl⟩
      refine ⟨rfl, ?_⟩
      conv => whnf
      repeat' (first
        | (refine CallX.exact (h56) rfl rfl ?_; rotate_right; conv => whnf)
        | (refine CallX.exact (h21) rfl rfl ?_; rotate_right; conv => whnf)
        | (refine CallX.exact (h25) rfl rfl ?_; rotate_right; conv => whnf)
        | (refine CallX.exact (hK) rfl rfl ?_; rotate_right; conv => whnf)
        | (refine CallX.exact (s20 _ _) rfl rfl ?_; rotate_right; conv => whnf)
        | (refine CallX.pure hb0 ⟨SV.le_lit (by rfl) (by rfl), trivial⟩ rfl ?_; conv => whnf)
        | (refine CallX.pure hb1 ⟨SV.le_lit (by rfl) (by rfl), trivial⟩ rfl ?_; conv => whnf)
        | (refine br_intro (fun hb => ?_) (fun hb => ?_) <;> (try simp only [decide_eq_true_eq, decide_eq_false_iff_not, Bool.not_eq_true', Bool.not_eq_false', Bool.and_eq_true, Bool.or_eq_true, beq_iff_eq, not_and, Int.not_le, Int.not_lt, Int.toNat_natCast, beq_eq_false_iff_ne, ne_eq, eq_self, not_true_eq_false, not_false_eq_true] at hb) <;> (conv => whnf))
        | (refine RegX.rule (id := 16) hT rfl [] [(0, []), (1, [0]), (2, [0]), (3, [0]), (4, [0]), (5, [0, 4]), (6, [0, 4]), (7, [0]), (8, [0]), (10, [0, 1, 2, 3, 4, 5, 6, 7, 8]), (11, [0, 1, 2, 3, 4, 5, 6, 7, 8, 10]), (12, [0, 1, 2, 3, 4, 5, 6, 7, 8]), (13, [0, 1, 2, 3, 4, 5, 6, 7, 8, 10, 11, 12]), (9, [0, 10, 11, 12, 13]), (14, [0]), (15, [0]), (16, []), (17, []), (18, [])] (by decide +kernel) ?_; conv => whnf)
        | omega
        | (refine And.intro ?_ ?_; ((try dsimp only); first | omega | (refine ⟨by omega, by omega, Int.le_trans (Int.mul_le_mul_of_nonneg_right (Int.ofNat_le.2 (Nat.le_of_ble_eq_true (rfl : Nat.ble _ 1024 = true))) (by omega)) (by omega), by omega⟩) | (refine Nat.le_trans (Nat.mul_le_mul_left _ (Nat.le_of_ble_eq_true (rfl : Nat.ble _ 1024 = true))) ?_; omega) | (unfold inI64; omega) | (constructor <;> omega) | (simp only [inI64, List.length_cons, List.length_append, List.length_nil, List.length_set] at *; omega) | decide | (unfold inI64; decide)); conv => whnf)
        | omega | decide | assumption)
      refine LoopX.ent ?_ (tail o' ho')
      first
        | exact (Entails.mk' [(7, 63)] rfl rfl ⟨SV.le_refl _, SV.le_refl _, SV.le_refl _, SV.le_refl _, SV.le_int hV, SV.le_int hE, SV.le_refl _, SV.le_refl _, SV.le_refl _, SV.le_refl _, SV.le_refl _, SV.le_refl _, SV.le_int hKI, SV.le_refl _, trivial⟩ ⟨Res.le_fro hKo hg, trivial⟩)
        | exact (Entails.mk' [(7, 38)] rfl rfl ⟨SV.le_refl _, SV.le_refl _, SV.le_refl _, SV.le_refl _, SV.le_int hV, SV.le_int hE, SV.le_refl _, SV.le_refl _, SV.le_refl _, SV.le_refl _, SV.le_refl _, SV.le_refl _, SV.le_int hKI, SV.le_refl _, trivial⟩ ⟨Res.le_fro hKo hg, trivial⟩)
  case tail =>
    intro o' (ho' : o'.length ≤ m.length + 1)
    obtain ⟨V, hV⟩ : ∃ V : Int, V = if rcE r st m o' = 0 then (roundO r st m o').getD 0 else 0 := ⟨_, rfl⟩
    obtain ⟨E, hE⟩ : ∃ E : Int, E = rcE r st m o' := ⟨_, rfl⟩
    have h00 : rcB r st m o' = onN (rcB r st m o') m.length o' 0 := by
      unfold onN
      by_cases q : rcB r st m o' = 0
      · rw [if_neg (by omega), q]; rfl
      · rw [if_pos q]
    refine LoopX.rule hT (C := []) (ι := Nat) (fun i => i ≤ o'.length)
      (fun i => mkSt [(4, .d (roas r)), (5, .d (.str st)), (6, .d (movs m)), (7, .buf 7), (8, .d (.int .i64 V)), (9, .d (.int .i64 E)), (10, .d (ints P)), (11, .d (.int .i64 N)), (12, .d (.int .i64 F)), (13, .d (.int .i64 (drvE r st m))), (14, .d (.int .i64 (onN (rcB r st m o') m.length o' i))), (99, .buf 7), (100, .d (.int .i64 o'.length)), (101, .d (.int .i64 i))] [(7, .fro 1 o'.length (rowF iF 0 o'))])
      (fun i => o'.length - i) 0 (by omega) ?_ ?_
    · exact Entails.mk' [(7, 7)] rfl rfl ⟨SV.le_refl _, SV.le_refl _, SV.le_refl _, SV.le_refl _, SV.le_int hV.symm, SV.le_int hE.symm, SV.le_refl _, SV.le_refl _, SV.le_refl _, SV.le_refl _, SV.le_int h00, SV.le_refl _, SV.le_refl _, SV.le_refl _, trivial⟩ ⟨Res.le_refl _, trivial⟩
    rintro i p1
    have e1 : (i : Int).toNat = i := Int.toNat_natCast i
    have hstep := onN_step (rcB r st m o') m.length o' i
    obtain ⟨A, hA⟩ : ∃ A : Int, A = onN (rcB r st m o') m.length o' i := ⟨_, rfl⟩
    rw [← hA] at hstep ⊢
    have h57 := z57 (o'.take i) (by rw [List.length_take]; omega) (o'.getD i 0)
    generalize hcon : (o'.take i).contains (o'.getD i 0) = con at h57 hstep
    rcases Nat.lt_or_ge i o'.length with hi | hi
    · conv => whnf
      repeat' (first
        | (refine CallX.exact (s20 _ _) rfl rfl ?_; rotate_right; conv => whnf)
        | (refine CallX.of h57 [] rfl ⟨SV.le_takeP (m := i) (by omega) (by omega) (fun j hj => by rw [show Int.toNat 0 + j = j by simp]), SV.le_refl _, trivial⟩ trivial rfl rfl ?_; rintro x rout ⟨rfl, rfl⟩; refine ⟨rfl, ?_⟩; conv => whnf)
        | (refine CallX.pure (s17 [A, _, if con = true then 6 else 0] (by simp)) ⟨SV.le_lit (by rfl) (by rfl), trivial⟩ rfl ?_; conv => whnf)
        | (refine br_intro (fun hb => ?_) (fun hb => ?_) <;> (try simp only [decide_eq_true_eq, decide_eq_false_iff_not, Bool.not_eq_true', Bool.not_eq_false', Bool.and_eq_true, Bool.or_eq_true, beq_iff_eq, not_and, Int.not_le, Int.not_lt, Int.toNat_natCast, beq_eq_false_iff_ne, ne_eq, eq_self, not_true_eq_false, not_false_eq_true] at hb) <;> (conv => whnf))
        | (refine RegX.rule (id := 16) hT rfl [] [(0, []), (1, [0]), (2, [0]), (3, [0]), (4, [0]), (5, [0, 4]), (6, [0, 4]), (7, [0]), (8, [0]), (10, [0, 1, 2, 3, 4, 5, 6, 7, 8]), (11, [0, 1, 2, 3, 4, 5, 6, 7, 8, 10]), (12, [0, 1, 2, 3, 4, 5, 6, 7, 8]), (13, [0, 1, 2, 3, 4, 5, 6, 7, 8, 10, 11, 12]), (9, [0, 10, 11, 12, 13]), (14, [0]), (15, [0]), (16, []), (17, []), (18, [])] (by decide +kernel) ?_; conv => whnf)
        | omega
        | (refine And.intro ?_ ?_; ((try dsimp only); first | omega | (refine ⟨by omega, by omega, Int.le_trans (Int.mul_le_mul_of_nonneg_right (Int.ofNat_le.2 (Nat.le_of_ble_eq_true (rfl : Nat.ble _ 1024 = true))) (by omega)) (by omega), by omega⟩) | (refine Nat.le_trans (Nat.mul_le_mul_left _ (Nat.le_of_ble_eq_true (rfl : Nat.ble _ 1024 = true))) ?_; omega) | (unfold inI64; omega) | (constructor <;> omega) | (simp only [inI64, List.length_cons, List.length_append, List.length_nil, List.length_set] at *; omega) | decide | (unfold inI64; decide)); conv => whnf)
        | omega | decide | assumption)
      · refine ⟨i + 1, by omega, by omega, Entails.mk' [(7, 7)] rfl rfl ⟨SV.le_refl _, SV.le_refl _, SV.le_refl _, SV.le_refl _, SV.le_refl _, SV.le_refl _, SV.le_refl _, SV.le_refl _, SV.le_refl _, SV.le_refl _, SV.le_int ?_, SV.le_refl _, SV.le_refl _, SV.le_int (by omega), trivial⟩ ⟨Res.le_refl _, trivial⟩⟩
        rw [hstep]
        simp only [firstE, e1] at *
        grind
      · refine ⟨i + 1, by omega, by omega, Entails.mk' [(7, 7)] rfl rfl ⟨SV.le_refl _, SV.le_refl _, SV.le_refl _, SV.le_refl _, SV.le_refl _, SV.le_refl _, SV.le_refl _, SV.le_refl _, SV.le_refl _, SV.le_refl _, SV.le_int ?_, SV.le_refl _, SV.le_refl _, SV.le_int (by omega), trivial⟩ ⟨Res.le_refl _, trivial⟩⟩
        rw [hstep]
        simp only [firstE, e1] at *
        grind
      all_goals (exfalso; omega)
    obtain rfl : i = o'.length := by omega
    have hgood := rcE_good (l := r) (start := st) (m := m) (o := o')
    have hbad := rcE_bad (l := r) (start := st) (m := m) (o := o')
    have hzero := onN_zero (l := r) (start := st) (m := m) (o := o')
    rw [← hA] at hgood hbad hzero
    rw [← hE] at hgood hbad hV
    have hnl := nearV_len (l := r) (start := st) (m := m)
    rcases hcase with ⟨hd, rfl, rfl, rfl⟩ | ⟨hd, rfl, rfl, rfl⟩
    · have hone : A ≠ 0 := fun q => hd (hzero q).1
      have hEA := hbad hone
      subst hEA
      rw [if_neg hone] at hV
      subst hV
      have h37 := s37 [] [] (by simp) (by simp)
      rw [decide_eq_true rfl] at h37
      conv => whnf
      repeat' (first
        | (refine CallX.pure h37 ⟨SV.le_refl _, SV.le_nilS, trivial⟩ rfl ?_; conv => whnf)
        | (refine CallX.exact (s32) rfl rfl ?_; rotate_right; conv => whnf)
        | (refine br_intro (fun hb => ?_) (fun hb => ?_) <;> (try simp only [decide_eq_true_eq, decide_eq_false_iff_not, Bool.not_eq_true', Bool.not_eq_false', Bool.and_eq_true, Bool.or_eq_true, beq_iff_eq, not_and, Int.not_le, Int.not_lt, Int.toNat_natCast, beq_eq_false_iff_ne, ne_eq, eq_self, not_true_eq_false, not_false_eq_true] at hb) <;> (conv => whnf))
        | (refine RegX.rule (id := 16) hT rfl [] [(0, []), (1, [0]), (2, [0]), (3, [0]), (4, [0]), (5, [0, 4]), (6, [0, 4]), (7, [0]), (8, [0]), (10, [0, 1, 2, 3, 4, 5, 6, 7, 8]), (11, [0, 1, 2, 3, 4, 5, 6, 7, 8, 10]), (12, [0, 1, 2, 3, 4, 5, 6, 7, 8]), (13, [0, 1, 2, 3, 4, 5, 6, 7, 8, 10, 11, 12]), (9, [0, 10, 11, 12, 13]), (14, [0]), (15, [0]), (16, []), (17, []), (18, [])] (by decide +kernel) ?_; conv => whnf)
        | omega
        | (refine And.intro ?_ ?_; ((try dsimp only); first | omega | (refine ⟨by omega, by omega, Int.le_trans (Int.mul_le_mul_of_nonneg_right (Int.ofNat_le.2 (Nat.le_of_ble_eq_true (rfl : Nat.ble _ 1024 = true))) (by omega)) (by omega), by omega⟩) | (refine Nat.le_trans (Nat.mul_le_mul_left _ (Nat.le_of_ble_eq_true (rfl : Nat.ble _ 1024 = true))) ?_; omega) | (unfold inI64; omega) | (constructor <;> omega) | (simp only [inI64, List.length_cons, List.length_append, List.length_nil, List.length_set] at *; omega) | decide | (unfold inI64; decide)); conv => whnf)
        | omega | decide | assumption)
      all_goals first
        | (exfalso; omega)
        | exact absurd (by assumption) hd
        | exact absurd (by assumption) hone
        | (refine .ret _ ?_
           conv => whnf
           refine ⟨[], ⟨?_, rfl⟩, trivial⟩
           conv => lhs; whnf
           all_goals rfl)
    · have h59 := z59 r (drvE_zero hd).1 st m (by omega)
      have h37 := s37 (nearV r st m).1 (nearV r st m).1 (by omega) (by omega)
      rw [decide_eq_true rfl] at h37
      generalize (nearV r st m).1 = P at h37 h59 hnl ⊢
      generalize (nearV r st m).2.1 = N at h59 ⊢
      generalize (nearV r st m).2.2 = B at h59 ⊢
      by_cases hone : A = 0
      · obtain ⟨_, ho1, ho2⟩ := hzero hone
        have h58 := z58 r (drvE_zero hd).1 st m (by omega) o' (ordE_ok (firstAt_all ho2)) (by omega)
        have hEA := hgood hone
        cases hro : roundO r st m o' with
        | none =>
          rw [hro] at hV hEA h58
          simp only [Option.isSome_none, Bool.false_eq_true, if_false] at hEA h58
          subst hEA
          rw [if_neg (by decide)] at hV
          subst hV
          conv => whnf
          repeat' (first
            | (refine CallX.of h58 [] rfl ⟨SV.le_refl _, SV.le_refl _, SV.le_refl _, SV.le_refl _, trivial⟩ trivial rfl rfl ?_; rintro x rout ⟨⟨v, rfl, hv⟩, rfl⟩; refine ⟨rfl, ?_⟩; conv => whnf)
            | (refine CallX.exact (s20 _ _) rfl rfl ?_; rotate_right; conv => whnf)
            | (refine CallX.exact (h59) rfl rfl ?_; rotate_right; conv => whnf)
            | (refine CallX.exact (h37) rfl rfl ?_; rotate_right; conv => whnf)
            | (refine CallX.exact (s32) rfl rfl ?_; rotate_right; conv => whnf)
            | (refine br_intro (fun hb => ?_) (fun hb => ?_) <;> (try simp only [decide_eq_true_eq, decide_eq_false_iff_not, Bool.not_eq_true', Bool.not_eq_false', Bool.and_eq_true, Bool.or_eq_true, beq_iff_eq, not_and, Int.not_le, Int.not_lt, Int.toNat_natCast, beq_eq_false_iff_ne, ne_eq, eq_self, not_true_eq_false, not_false_eq_true] at hb) <;> (conv => whnf))
            | (refine RegX.rule (id := 16) hT rfl [] [(0, []), (1, [0]), (2, [0]), (3, [0]), (4, [0]), (5, [0, 4]), (6, [0, 4]), (7, [0]), (8, [0]), (10, [0, 1, 2, 3, 4, 5, 6, 7, 8]), (11, [0, 1, 2, 3, 4, 5, 6, 7, 8, 10]), (12, [0, 1, 2, 3, 4, 5, 6, 7, 8]), (13, [0, 1, 2, 3, 4, 5, 6, 7, 8, 10, 11, 12]), (9, [0, 10, 11, 12, 13]), (14, [0]), (15, [0]), (16, []), (17, []), (18, [])] (by decide +kernel) ?_; conv => whnf)
            | omega
            | (refine And.intro ?_ ?_; ((try dsimp only); first | omega | (refine ⟨by omega, by omega, Int.le_trans (Int.mul_le_mul_of_nonneg_right (Int.ofNat_le.2 (Nat.le_of_ble_eq_true (rfl : Nat.ble _ 1024 = true))) (by omega)) (by omega), by omega⟩) | (refine Nat.le_trans (Nat.mul_le_mul_left _ (Nat.le_of_ble_eq_true (rfl : Nat.ble _ 1024 = true))) ?_; omega) | (unfold inI64; omega) | (constructor <;> omega) | (simp only [inI64, List.length_cons, List.length_append, List.length_nil, List.length_set] at *; omega) | decide | (unfold inI64; decide)); conv => whnf)
            | omega | decide | assumption)
          all_goals first
            | (exfalso; omega)
            | exact absurd (by assumption) hd
            | exact absurd (by assumption) hone
            | (refine .ret _ ?_
               conv => whnf
               refine ⟨[], ⟨?_, rfl⟩, trivial⟩
               conv => lhs; whnf
               all_goals rfl)
        | some v0 =>
          rw [hro] at hV hEA h58
          simp only [Option.isSome_some, if_true] at hEA h58
          subst hEA
          rw [if_pos rfl] at hV
          simp only [Option.getD_some] at hV
          subst hV
          conv => whnf
          repeat' (first
            | (refine CallX.of h58 [] rfl ⟨SV.le_refl _, SV.le_refl _, SV.le_refl _, SV.le_refl _, trivial⟩ trivial rfl rfl ?_; rintro x rout ⟨⟨v, rfl, hv⟩, rfl⟩; obtain rfl := hv _ rfl; refine ⟨rfl, ?_⟩; conv => whnf)
            | (refine CallX.exact (s20 _ _) rfl rfl ?_; rotate_right; conv => whnf)
            | (refine CallX.exact (h59) rfl rfl ?_; rotate_right; conv => whnf)
            | (refine CallX.exact (h37) rfl rfl ?_; rotate_right; conv => whnf)
            | (refine CallX.exact (s32) rfl rfl ?_; rotate_right; conv => whnf)
            | (refine br_intro (fun hb => ?_) (fun hb => ?_) <;> (try simp only [decide_eq_true_eq, decide_eq_false_iff_not, Bool.not_eq_true', Bool.not_eq_false', Bool.and_eq_true, Bool.or_eq_true, beq_iff_eq, not_and, Int.not_le, Int.not_lt, Int.toNat_natCast, beq_eq_false_iff_ne, ne_eq, eq_self, not_true_eq_false, not_false_eq_true] at hb) <;> (conv => whnf))
            | (refine RegX.rule (id := 16) hT rfl [] [(0, []), (1, [0]), (2, [0]), (3, [0]), (4, [0]), (5, [0, 4]), (6, [0, 4]), (7, [0]), (8, [0]), (10, [0, 1, 2, 3, 4, 5, 6, 7, 8]), (11, [0, 1, 2, 3, 4, 5, 6, 7, 8, 10]), (12, [0, 1, 2, 3, 4, 5, 6, 7, 8]), (13, [0, 1, 2, 3, 4, 5, 6, 7, 8, 10, 11, 12]), (9, [0, 10, 11, 12, 13]), (14, [0]), (15, [0]), (16, []), (17, []), (18, [])] (by decide +kernel) ?_; conv => whnf)
            | omega
            | (refine And.intro ?_ ?_; ((try dsimp only); first | omega | (refine ⟨by omega, by omega, Int.le_trans (Int.mul_le_mul_of_nonneg_right (Int.ofNat_le.2 (Nat.le_of_ble_eq_true (rfl : Nat.ble _ 1024 = true))) (by omega)) (by omega), by omega⟩) | (refine Nat.le_trans (Nat.mul_le_mul_left _ (Nat.le_of_ble_eq_true (rfl : Nat.ble _ 1024 = true))) ?_; omega) | (unfold inI64; omega) | (constructor <;> omega) | (simp only [inI64, List.length_cons, List.length_append, List.length_nil, List.length_set] at *; omega) | decide | (unfold inI64; decide)); conv => whnf)
            | omega | decide | assumption)
          all_goals first
            | (exfalso; omega)
            | exact absurd (by assumption) hd
            | exact absurd (by assumption) hone
            | (refine .ret _ ?_
               conv => whnf
               refine ⟨[], ⟨?_, rfl⟩, trivial⟩
               conv => lhs; whnf
               all_goals rfl)
      · have hEA := hbad hone
        subst hEA
        rw [if_neg hone] at hV
        subst hV
        conv => whnf
        repeat' (first
          | (refine CallX.exact (s20 _ _) rfl rfl ?_; rotate_right; conv => whnf)
          | (refine CallX.exact (h59) rfl rfl ?_; rotate_right; conv => whnf)
          | (refine CallX.exact (h37) rfl rfl ?_; rotate_right; conv => whnf)
          | (refine CallX.exact (s32) rfl rfl ?_; rotate_right; conv => whnf)
          | (refine br_intro (fun hb => ?_) (fun hb => ?_) <;> (try simp only [decide_eq_true_eq, decide_eq_false_iff_not, Bool.not_eq_true', Bool.not_eq_false', Bool.and_eq_true, Bool.or_eq_true, beq_iff_eq, not_and, Int.not_le, Int.not_lt, Int.toNat_natCast, beq_eq_false_iff_ne, ne_eq, eq_self, not_true_eq_false, not_false_eq_true] at hb) <;> (conv => whnf))
          | (refine RegX.rule (id := 16) hT rfl [] [(0, []), (1, [0]), (2, [0]), (3, [0]), (4, [0]), (5, [0, 4]), (6, [0, 4]), (7, [0]), (8, [0]), (10, [0, 1, 2, 3, 4, 5, 6, 7, 8]), (11, [0, 1, 2, 3, 4, 5, 6, 7, 8, 10]), (12, [0, 1, 2, 3, 4, 5, 6, 7, 8]), (13, [0, 1, 2, 3, 4, 5, 6, 7, 8, 10, 11, 12]), (9, [0, 10, 11, 12, 13]), (14, [0]), (15, [0]), (16, []), (17, []), (18, [])] (by decide +kernel) ?_; conv => whnf)
          | omega
          | (refine And.intro ?_ ?_; ((try dsimp only); first | omega | (refine ⟨by omega, by omega, Int.le_trans (Int.mul_le_mul_of_nonneg_right (Int.ofNat_le.2 (Nat.le_of_ble_eq_true (rfl : Nat.ble _ 1024 = true))) (by omega)) (by omega), by omega⟩) | (refine Nat.le_trans (Nat.mul_le_mul_left _ (Nat.le_of_ble_eq_true (rfl : Nat.ble _ 1024 = true))) ?_; omega) | (unfold inI64; omega) | (constructor <;> omega) | (simp only [inI64, List.length_cons, List.length_append, List.length_nil, List.length_set] at *; omega) | decide | (unfold inI64; decide)); conv => whnf)
          | omega | decide | assumption)
        all_goals first
          | (exfalso; omega)
          | exact absurd (by assumption) hd
          | exact absurd (by assumption) hone
          | (refine .ret _ ?_
             conv => whnf
             refine ⟨[], ⟨?_, rfl⟩, trivial⟩
             conv => lhs; whnf
             all_goals rfl)
end Go.Proofs.YtnkdlkgannnfhaaGreatDoor
