/- RepairsBounded is proved: for every input the law returns true, and its argument reads afterwards as it read before. Conditions: those of the given row alone. -/
import Derived.Test.YtnkdlkgannnfhaaGreatRbConOne
import Derived.Test.YtnkdlkgannnfhaaGreatRbEngTwo
set_option linter.unusedVariables false
set_option linter.unusedSimpArgs false
set_option maxRecDepth 20000
namespace Go.Proofs.YtnkdlkgannnfhaaGreat
open Go Go.Eng
theorem s221_0 : FSpec Tryz.prog 74 [.d (.int .u64 0)] [] (fun y r => (∃ m : Int, y = .d (.int .i64 m)) ∧ r = []) := by
  refine spec_of hT (C := []) Tryz.func74 rfl Tryz.call74 rfl rfl rfl ?_
  conv => whnf
  repeat' (first
    | (refine br_intro (fun hb => ?_) (fun hb => ?_) <;> (try simp only [decide_eq_true_eq, decide_eq_false_iff_not, Bool.not_eq_true', Bool.not_eq_false', Bool.and_eq_true, Bool.or_eq_true, beq_iff_eq, not_and, Int.not_le, Int.not_lt, Int.toNat_natCast, beq_eq_false_iff_ne, ne_eq, eq_self, not_true_eq_false, not_false_eq_true] at hb) <;> (conv => whnf))
    | omega
    | (refine And.intro ?_ ?_; ((try dsimp only); first | omega | (refine ⟨by omega, by omega, Int.le_trans (Int.mul_le_mul_of_nonneg_right (Int.ofNat_le.2 (Nat.le_of_ble_eq_true (rfl : Nat.ble _ 1024 = true))) (by omega)) (by omega), by omega⟩) | (refine Nat.le_trans (Nat.mul_le_mul_left _ (Nat.le_of_ble_eq_true (rfl : Nat.ble _ 1024 = true))) ?_; omega) | (unfold inI64; omega) | (constructor <;> omega) | (simp only [inI64, List.length_cons, List.length_append, List.length_nil, List.length_set] at *; omega) | decide | (unfold inI64; decide)); conv => whnf)
    | omega | decide | assumption)
  refine .ret _ ?_
  conv => whnf
  exact ⟨[], ⟨⟨_, rfl⟩, rfl⟩, trivial⟩
theorem s221_1 : FSpec Tryz.prog 74 [.d (.int .u64 1)] [] (fun y r => (∃ m : Int, y = .d (.int .i64 m)) ∧ r = []) := by
  refine spec_of hT (C := []) Tryz.func74 rfl Tryz.call74 rfl rfl rfl ?_
  conv => whnf
  repeat' (first
    | (refine br_intro (fun hb => ?_) (fun hb => ?_) <;> (try simp only [decide_eq_true_eq, decide_eq_false_iff_not, Bool.not_eq_true', Bool.not_eq_false', Bool.and_eq_true, Bool.or_eq_true, beq_iff_eq, not_and, Int.not_le, Int.not_lt, Int.toNat_natCast, beq_eq_false_iff_ne, ne_eq, eq_self, not_true_eq_false, not_false_eq_true] at hb) <;> (conv => whnf))
    | omega
    | (refine And.intro ?_ ?_; ((try dsimp only); first | omega | (refine ⟨by omega, by omega, Int.le_trans (Int.mul_le_mul_of_nonneg_right (Int.ofNat_le.2 (Nat.le_of_ble_eq_true (rfl : Nat.ble _ 1024 = true))) (by omega)) (by omega), by omega⟩) | (refine Nat.le_trans (Nat.mul_le_mul_left _ (Nat.le_of_ble_eq_true (rfl : Nat.ble _ 1024 = true))) ?_; omega) | (unfold inI64; omega) | (constructor <;> omega) | (simp only [inI64, List.length_cons, List.length_append, List.length_nil, List.length_set] at *; omega) | decide | (unfold inI64; decide)); conv => whnf)
    | omega | decide | assumption)
  refine .ret _ ?_
  conv => whnf
  exact ⟨[], ⟨⟨_, rfl⟩, rfl⟩, trivial⟩
theorem s221_2 : FSpec Tryz.prog 74 [.d (.int .u64 2)] [] (fun y r => (∃ m : Int, y = .d (.int .i64 m)) ∧ r = []) := by
  refine spec_of hT (C := []) Tryz.func74 rfl Tryz.call74 rfl rfl rfl ?_
  conv => whnf
  repeat' (first
    | (refine br_intro (fun hb => ?_) (fun hb => ?_) <;> (try simp only [decide_eq_true_eq, decide_eq_false_iff_not, Bool.not_eq_true', Bool.not_eq_false', Bool.and_eq_true, Bool.or_eq_true, beq_iff_eq, not_and, Int.not_le, Int.not_lt, Int.toNat_natCast, beq_eq_false_iff_ne, ne_eq, eq_self, not_true_eq_false, not_false_eq_true] at hb) <;> (conv => whnf))
    | omega
    | (refine And.intro ?_ ?_; ((try dsimp only); first | omega | (refine ⟨by omega, by omega, Int.le_trans (Int.mul_le_mul_of_nonneg_right (Int.ofNat_le.2 (Nat.le_of_ble_eq_true (rfl : Nat.ble _ 1024 = true))) (by omega)) (by omega), by omega⟩) | (refine Nat.le_trans (Nat.mul_le_mul_left _ (Nat.le_of_ble_eq_true (rfl : Nat.ble _ 1024 = true))) ?_; omega) | (unfold inI64; omega) | (constructor <;> omega) | (simp only [inI64, List.length_cons, List.length_append, List.length_nil, List.length_set] at *; omega) | decide | (unfold inI64; decide)); conv => whnf)
    | omega | decide | assumption)
  refine .ret _ ?_
  conv => whnf
  exact ⟨[], ⟨⟨_, rfl⟩, rfl⟩, trivial⟩
theorem s221_3 : FSpec Tryz.prog 74 [.d (.int .u64 3)] [] (fun y r => (∃ m : Int, y = .d (.int .i64 m)) ∧ r = []) := by
  refine spec_of hT (C := []) Tryz.func74 rfl Tryz.call74 rfl rfl rfl ?_
  conv => whnf
  repeat' (first
    | (refine br_intro (fun hb => ?_) (fun hb => ?_) <;> (try simp only [decide_eq_true_eq, decide_eq_false_iff_not, Bool.not_eq_true', Bool.not_eq_false', Bool.and_eq_true, Bool.or_eq_true, beq_iff_eq, not_and, Int.not_le, Int.not_lt, Int.toNat_natCast, beq_eq_false_iff_ne, ne_eq, eq_self, not_true_eq_false, not_false_eq_true] at hb) <;> (conv => whnf))
    | omega
    | (refine And.intro ?_ ?_; ((try dsimp only); first | omega | (refine ⟨by omega, by omega, Int.le_trans (Int.mul_le_mul_of_nonneg_right (Int.ofNat_le.2 (Nat.le_of_ble_eq_true (rfl : Nat.ble _ 1024 = true))) (by omega)) (by omega), by omega⟩) | (refine Nat.le_trans (Nat.mul_le_mul_left _ (Nat.le_of_ble_eq_true (rfl : Nat.ble _ 1024 = true))) ?_; omega) | (unfold inI64; omega) | (constructor <;> omega) | (simp only [inI64, List.length_cons, List.length_append, List.length_nil, List.length_set] at *; omega) | decide | (unfold inI64; decide)); conv => whnf)
    | omega | decide | assumption)
  refine .ret _ ?_
  conv => whnf
  exact ⟨[], ⟨⟨_, rfl⟩, rfl⟩, trivial⟩
theorem s221_4 : FSpec Tryz.prog 74 [.d (.int .u64 4)] [] (fun y r => (∃ m : Int, y = .d (.int .i64 m)) ∧ r = []) := by
  refine spec_of hT (C := []) Tryz.func74 rfl Tryz.call74 rfl rfl rfl ?_
  conv => whnf
  repeat' (first
    | (refine br_intro (fun hb => ?_) (fun hb => ?_) <;> (try simp only [decide_eq_true_eq, decide_eq_false_iff_not, Bool.not_eq_true', Bool.not_eq_false', Bool.and_eq_true, Bool.or_eq_true, beq_iff_eq, not_and, Int.not_le, Int.not_lt, Int.toNat_natCast, beq_eq_false_iff_ne, ne_eq, eq_self, not_true_eq_false, not_false_eq_true] at hb) <;> (conv => whnf))
    | omega
    | (refine And.intro ?_ ?_; ((try dsimp only); first | omega | (refine ⟨by omega, by omega, Int.le_trans (Int.mul_le_mul_of_nonneg_right (Int.ofNat_le.2 (Nat.le_of_ble_eq_true (rfl : Nat.ble _ 1024 = true))) (by omega)) (by omega), by omega⟩) | (refine Nat.le_trans (Nat.mul_le_mul_left _ (Nat.le_of_ble_eq_true (rfl : Nat.ble _ 1024 = true))) ?_; omega) | (unfold inI64; omega) | (constructor <;> omega) | (simp only [inI64, List.length_cons, List.length_append, List.length_nil, List.length_set] at *; omega) | decide | (unfold inI64; decide)); conv => whnf)
    | omega | decide | assumption)
  refine .ret _ ?_
  conv => whnf
  exact ⟨[], ⟨⟨_, rfl⟩, rfl⟩, trivial⟩
theorem s221_5 : FSpec Tryz.prog 74 [.d (.int .u64 5)] [] (fun y r => (∃ m : Int, y = .d (.int .i64 m)) ∧ r = []) := by
  refine spec_of hT (C := []) Tryz.func74 rfl Tryz.call74 rfl rfl rfl ?_
  conv => whnf
  repeat' (first
    | (refine br_intro (fun hb => ?_) (fun hb => ?_) <;> (try simp only [decide_eq_true_eq, decide_eq_false_iff_not, Bool.not_eq_true', Bool.not_eq_false', Bool.and_eq_true, Bool.or_eq_true, beq_iff_eq, not_and, Int.not_le, Int.not_lt, Int.toNat_natCast, beq_eq_false_iff_ne, ne_eq, eq_self, not_true_eq_false, not_false_eq_true] at hb) <;> (conv => whnf))
    | omega
    | (refine And.intro ?_ ?_; ((try dsimp only); first | omega | (refine ⟨by omega, by omega, Int.le_trans (Int.mul_le_mul_of_nonneg_right (Int.ofNat_le.2 (Nat.le_of_ble_eq_true (rfl : Nat.ble _ 1024 = true))) (by omega)) (by omega), by omega⟩) | (refine Nat.le_trans (Nat.mul_le_mul_left _ (Nat.le_of_ble_eq_true (rfl : Nat.ble _ 1024 = true))) ?_; omega) | (unfold inI64; omega) | (constructor <;> omega) | (simp only [inI64, List.length_cons, List.length_append, List.length_nil, List.length_set] at *; omega) | decide | (unfold inI64; decide)); conv => whnf)
    | omega | decide | assumption)
  refine .ret _ ?_
  conv => whnf
  exact ⟨[], ⟨⟨_, rfl⟩, rfl⟩, trivial⟩
theorem s221_6 : FSpec Tryz.prog 74 [.d (.int .u64 6)] [] (fun y r => (∃ m : Int, y = .d (.int .i64 m)) ∧ r = []) := by
  refine spec_of hT (C := []) Tryz.func74 rfl Tryz.call74 rfl rfl rfl ?_
  conv => whnf
  repeat' (first
    | (refine br_intro (fun hb => ?_) (fun hb => ?_) <;> (try simp only [decide_eq_true_eq, decide_eq_false_iff_not, Bool.not_eq_true', Bool.not_eq_false', Bool.and_eq_true, Bool.or_eq_true, beq_iff_eq, not_and, Int.not_le, Int.not_lt, Int.toNat_natCast, beq_eq_false_iff_ne, ne_eq, eq_self, not_true_eq_false, not_false_eq_true] at hb) <;> (conv => whnf))
    | omega
    | (refine And.intro ?_ ?_; ((try dsimp only); first | omega | (refine ⟨by omega, by omega, Int.le_trans (Int.mul_le_mul_of_nonneg_right (Int.ofNat_le.2 (Nat.le_of_ble_eq_true (rfl : Nat.ble _ 1024 = true))) (by omega)) (by omega), by omega⟩) | (refine Nat.le_trans (Nat.mul_le_mul_left _ (Nat.le_of_ble_eq_true (rfl : Nat.ble _ 1024 = true))) ?_; omega) | (unfold inI64; omega) | (constructor <;> omega) | (simp only [inI64, List.length_cons, List.length_append, List.length_nil, List.length_set] at *; omega) | decide | (unfold inI64; decide)); conv => whnf)
    | omega | decide | assumption)
  refine .ret _ ?_
  conv => whnf
  exact ⟨[], ⟨⟨_, rfl⟩, rfl⟩, trivial⟩
theorem s221_7 : FSpec Tryz.prog 74 [.d (.int .u64 7)] [] (fun y r => (∃ m : Int, y = .d (.int .i64 m)) ∧ r = []) := by
  refine spec_of hT (C := []) Tryz.func74 rfl Tryz.call74 rfl rfl rfl ?_
  conv => whnf
  repeat' (first
    | (refine br_intro (fun hb => ?_) (fun hb => ?_) <;> (try simp only [decide_eq_true_eq, decide_eq_false_iff_not, Bool.not_eq_true', Bool.not_eq_false', Bool.and_eq_true, Bool.or_eq_true, beq_iff_eq, not_and, Int.not_le, Int.not_lt, Int.toNat_natCast, beq_eq_false_iff_ne, ne_eq, eq_self, not_true_eq_false, not_false_eq_true] at hb) <;> (conv => whnf))
    | omega
    | (refine And.intro ?_ ?_; ((try dsimp only); first | omega | (refine ⟨by omega, by omega, Int.le_trans (Int.mul_le_mul_of_nonneg_right (Int.ofNat_le.2 (Nat.le_of_ble_eq_true (rfl : Nat.ble _ 1024 = true))) (by omega)) (by omega), by omega⟩) | (refine Nat.le_trans (Nat.mul_le_mul_left _ (Nat.le_of_ble_eq_true (rfl : Nat.ble _ 1024 = true))) ?_; omega) | (unfold inI64; omega) | (constructor <;> omega) | (simp only [inI64, List.length_cons, List.length_append, List.length_nil, List.length_set] at *; omega) | decide | (unfold inI64; decide)); conv => whnf)
    | omega | decide | assumption)
  refine .ret _ ?_
  conv => whnf
  exact ⟨[], ⟨⟨_, rfl⟩, rfl⟩, trivial⟩
theorem s221_8 : FSpec Tryz.prog 74 [.d (.int .u64 8)] [] (fun y r => (∃ m : Int, y = .d (.int .i64 m)) ∧ r = []) := by
  refine spec_of hT (C := []) Tryz.func74 rfl Tryz.call74 rfl rfl rfl ?_
  conv => whnf
  repeat' (first
    | (refine br_intro (fun hb => ?_) (fun hb => ?_) <;> (try simp only [decide_eq_true_eq, decide_eq_false_iff_not, Bool.not_eq_true', Bool.not_eq_false', Bool.and_eq_true, Bool.or_eq_true, beq_iff_eq, not_and, Int.not_le, Int.not_lt, Int.toNat_natCast, beq_eq_false_iff_ne, ne_eq, eq_self, not_true_eq_false, not_false_eq_true] at hb) <;> (conv => whnf))
    | omega
    | (refine And.intro ?_ ?_; ((try dsimp only); first | omega | (refine ⟨by omega, by omega, Int.le_trans (Int.mul_le_mul_of_nonneg_right (Int.ofNat_le.2 (Nat.le_of_ble_eq_true (rfl : Nat.ble _ 1024 = true))) (by omega)) (by omega), by omega⟩) | (refine Nat.le_trans (Nat.mul_le_mul_left _ (Nat.le_of_ble_eq_true (rfl : Nat.ble _ 1024 = true))) ?_; omega) | (unfold inI64; omega) | (constructor <;> omega) | (simp only [inI64, List.length_cons, List.length_append, List.length_nil, List.length_set] at *; omega) | decide | (unfold inI64; decide)); conv => whnf)
    | omega | decide | assumption)
  refine .ret _ ?_
  conv => whnf
  exact ⟨[], ⟨⟨_, rfl⟩, rfl⟩, trivial⟩
theorem s221_9 : FSpec Tryz.prog 74 [.d (.int .u64 9)] [] (fun y r => (∃ m : Int, y = .d (.int .i64 m)) ∧ r = []) := by
  refine spec_of hT (C := []) Tryz.func74 rfl Tryz.call74 rfl rfl rfl ?_
  conv => whnf
  repeat' (first
    | (refine br_intro (fun hb => ?_) (fun hb => ?_) <;> (try simp only [decide_eq_true_eq, decide_eq_false_iff_not, Bool.not_eq_true', Bool.not_eq_false', Bool.and_eq_true, Bool.or_eq_true, beq_iff_eq, not_and, Int.not_le, Int.not_lt, Int.toNat_natCast, beq_eq_false_iff_ne, ne_eq, eq_self, not_true_eq_false, not_false_eq_true] at hb) <;> (conv => whnf))
    | omega
    | (refine And.intro ?_ ?_; ((try dsimp only); first | omega | (refine ⟨by omega, by omega, Int.le_trans (Int.mul_le_mul_of_nonneg_right (Int.ofNat_le.2 (Nat.le_of_ble_eq_true (rfl : Nat.ble _ 1024 = true))) (by omega)) (by omega), by omega⟩) | (refine Nat.le_trans (Nat.mul_le_mul_left _ (Nat.le_of_ble_eq_true (rfl : Nat.ble _ 1024 = true))) ?_; omega) | (unfold inI64; omega) | (constructor <;> omega) | (simp only [inI64, List.length_cons, List.length_append, List.length_nil, List.length_set] at *; omega) | decide | (unfold inI64; decide)); conv => whnf)
    | omega | decide | assumption)
  refine .ret _ ?_
  conv => whnf
  exact ⟨[], ⟨⟨_, rfl⟩, rfl⟩, trivial⟩
theorem s221_10 : FSpec Tryz.prog 74 [.d (.int .u64 10)] [] (fun y r => (∃ m : Int, y = .d (.int .i64 m)) ∧ r = []) := by
  refine spec_of hT (C := []) Tryz.func74 rfl Tryz.call74 rfl rfl rfl ?_
  conv => whnf
  repeat' (first
    | (refine br_intro (fun hb => ?_) (fun hb => ?_) <;> (try simp only [decide_eq_true_eq, decide_eq_false_iff_not, Bool.not_eq_true', Bool.not_eq_false', Bool.and_eq_true, Bool.or_eq_true, beq_iff_eq, not_and, Int.not_le, Int.not_lt, Int.toNat_natCast, beq_eq_false_iff_ne, ne_eq, eq_self, not_true_eq_false, not_false_eq_true] at hb) <;> (conv => whnf))
    | omega
    | (refine And.intro ?_ ?_; ((try dsimp only); first | omega | (refine ⟨by omega, by omega, Int.le_trans (Int.mul_le_mul_of_nonneg_right (Int.ofNat_le.2 (Nat.le_of_ble_eq_true (rfl : Nat.ble _ 1024 = true))) (by omega)) (by omega), by omega⟩) | (refine Nat.le_trans (Nat.mul_le_mul_left _ (Nat.le_of_ble_eq_true (rfl : Nat.ble _ 1024 = true))) ?_; omega) | (unfold inI64; omega) | (constructor <;> omega) | (simp only [inI64, List.length_cons, List.length_append, List.length_nil, List.length_set] at *; omega) | decide | (unfold inI64; decide)); conv => whnf)
    | omega | decide | assumption)
  refine .ret _ ?_
  conv => whnf
  exact ⟨[], ⟨⟨_, rfl⟩, rfl⟩, trivial⟩
theorem s221_11 : FSpec Tryz.prog 74 [.d (.int .u64 11)] [] (fun y r => (∃ m : Int, y = .d (.int .i64 m)) ∧ r = []) := by
  refine spec_of hT (C := []) Tryz.func74 rfl Tryz.call74 rfl rfl rfl ?_
  conv => whnf
  repeat' (first
    | (refine br_intro (fun hb => ?_) (fun hb => ?_) <;> (try simp only [decide_eq_true_eq, decide_eq_false_iff_not, Bool.not_eq_true', Bool.not_eq_false', Bool.and_eq_true, Bool.or_eq_true, beq_iff_eq, not_and, Int.not_le, Int.not_lt, Int.toNat_natCast, beq_eq_false_iff_ne, ne_eq, eq_self, not_true_eq_false, not_false_eq_true] at hb) <;> (conv => whnf))
    | omega
    | (refine And.intro ?_ ?_; ((try dsimp only); first | omega | (refine ⟨by omega, by omega, Int.le_trans (Int.mul_le_mul_of_nonneg_right (Int.ofNat_le.2 (Nat.le_of_ble_eq_true (rfl : Nat.ble _ 1024 = true))) (by omega)) (by omega), by omega⟩) | (refine Nat.le_trans (Nat.mul_le_mul_left _ (Nat.le_of_ble_eq_true (rfl : Nat.ble _ 1024 = true))) ?_; omega) | (unfold inI64; omega) | (constructor <;> omega) | (simp only [inI64, List.length_cons, List.length_append, List.length_nil, List.length_set] at *; omega) | decide | (unfold inI64; decide)); conv => whnf)
    | omega | decide | assumption)
  refine .ret _ ?_
  conv => whnf
  exact ⟨[], ⟨⟨_, rfl⟩, rfl⟩, trivial⟩
theorem s221_12 : FSpec Tryz.prog 74 [.d (.int .u64 12)] [] (fun y r => (∃ m : Int, y = .d (.int .i64 m)) ∧ r = []) := by
  refine spec_of hT (C := []) Tryz.func74 rfl Tryz.call74 rfl rfl rfl ?_
  conv => whnf
  repeat' (first
    | (refine br_intro (fun hb => ?_) (fun hb => ?_) <;> (try simp only [decide_eq_true_eq, decide_eq_false_iff_not, Bool.not_eq_true', Bool.not_eq_false', Bool.and_eq_true, Bool.or_eq_true, beq_iff_eq, not_and, Int.not_le, Int.not_lt, Int.toNat_natCast, beq_eq_false_iff_ne, ne_eq, eq_self, not_true_eq_false, not_false_eq_true] at hb) <;> (conv => whnf))
    | omega
    | (refine And.intro ?_ ?_; ((try dsimp only); first | omega | (refine ⟨by omega, by omega, Int.le_trans (Int.mul_le_mul_of_nonneg_right (Int.ofNat_le.2 (Nat.le_of_ble_eq_true (rfl : Nat.ble _ 1024 = true))) (by omega)) (by omega), by omega⟩) | (refine Nat.le_trans (Nat.mul_le_mul_left _ (Nat.le_of_ble_eq_true (rfl : Nat.ble _ 1024 = true))) ?_; omega) | (unfold inI64; omega) | (constructor <;> omega) | (simp only [inI64, List.length_cons, List.length_append, List.length_nil, List.length_set] at *; omega) | decide | (unfold inI64; decide)); conv => whnf)
    | omega | decide | assumption)
  refine .ret _ ?_
  conv => whnf
  exact ⟨[], ⟨⟨_, rfl⟩, rfl⟩, trivial⟩
theorem s221 (n : Nat) (hn : n ≤ 12) : FSpec Tryz.prog 74 [.d (.int .u64 n)] [] (fun y r => (∃ m : Int, y = .d (.int .i64 m)) ∧ r = []) := by
  match n, hn with
  | 0, _ => exact s221_0
  | 1, _ => exact s221_1
  | 2, _ => exact s221_2
  | 3, _ => exact s221_3
  | 4, _ => exact s221_4
  | 5, _ => exact s221_5
  | 6, _ => exact s221_6
  | 7, _ => exact s221_7
  | 8, _ => exact s221_8
  | 9, _ => exact s221_9
  | 10, _ => exact s221_10
  | 11, _ => exact s221_11
  | 12, _ => exact s221_12
  | n + 13, h => omega
theorem wrap_u64 (n : Nat) (hn : n ≤ 12) : IntKind.u64.wrap n = n := by
  match n, hn with
  | 0, _ | 1, _ | 2, _ | 3, _ | 4, _ | 5, _ | 6, _ | 7, _ | 8, _ | 9, _ | 10, _ | 11, _ | 12, _ => decide
  | n + 13, h => omega
-- math/bits.Len of a small number
theorem sBitsLen (n : Nat) (hn : n ≤ 12) : FSpec Tryz.prog 36 [.d (.int .u64 (IntKind.u64.wrap n))] [] (fun y r => (∃ m : Int, y = .d (.int .i64 m)) ∧ r = []) := by
  rw [wrap_u64 n hn]
  refine spec_of hT (C := []) Tryz.func36 rfl Tryz.call36 rfl rfl rfl ?_
  conv => whnf
  repeat' (first
    | (refine br_intro (fun hb => ?_) (fun hb => ?_) <;> (try simp only [decide_eq_true_eq, decide_eq_false_iff_not, Bool.not_eq_true', Bool.not_eq_false', Bool.and_eq_true, Bool.or_eq_true, beq_iff_eq, not_and, Int.not_le, Int.not_lt, Int.toNat_natCast, beq_eq_false_iff_ne, ne_eq, eq_self, not_true_eq_false, not_false_eq_true] at hb) <;> (conv => whnf))
    | omega
    | (refine And.intro ?_ ?_; ((try dsimp only); first | omega | (refine ⟨by omega, by omega, Int.le_trans (Int.mul_le_mul_of_nonneg_right (Int.ofNat_le.2 (Nat.le_of_ble_eq_true (rfl : Nat.ble _ 1024 = true))) (by omega)) (by omega), by omega⟩) | (refine Nat.le_trans (Nat.mul_le_mul_left _ (Nat.le_of_ble_eq_true (rfl : Nat.ble _ 1024 = true))) ?_; omega) | (unfold inI64; omega) | (constructor <;> omega) | (simp only [inI64, List.length_cons, List.length_append, List.length_nil, List.length_set] at *; omega) | decide | (unfold inI64; decide)); conv => whnf)
    | omega | decide | assumption)
  refine CallX.of (s221 n hn) [] rfl ⟨SV.le_refl _, trivial⟩ trivial rfl rfl ?_
  rintro x rout ⟨⟨m, rfl⟩, rfl⟩
  refine ⟨rfl, ?_⟩
  conv => whnf
  refine .ret _ ?_
  conv => whnf
  exact ⟨[], ⟨⟨_, rfl⟩, rfl⟩, trivial⟩
-- insertion sort: the same elements
theorem s212 (g : FuncId) (cmp : Mrk → Mrk → Int) (l : List Mrk) (hl : l.length ≤ 2^40)
    (hcmp : ∀ p q, p ∈ l → q ∈ l → FSpec Tryz.prog g [.agg ((mkF p).map .d), .agg ((mkF q).map .d)] [] (fun y r => y = .d (.int .i64 (cmp p q)) ∧ r = [])) :
    FSpec Tryz.prog 65 [.buf 1000001, .d (.int .i64 0), .d (.int .i64 l.length), .fn g []] [(1000001, seqB 43 5 mkF mk0 l)]
      (fun y r => y = .tup [] ∧ ∃ c, sameL l c ∧ r = [(1000001, seqB 43 5 mkF mk0 c)]) := by
  refine spec_of hT (C := []) Tryz.func65 rfl Tryz.call65 rfl rfl rfl ?_
  conv => whnf
  repeat' (first
    | (refine br_intro (fun hb => ?_) (fun hb => ?_) <;> (try simp only [decide_eq_true_eq, decide_eq_false_iff_not, Bool.not_eq_true', Bool.not_eq_false', Bool.and_eq_true, Bool.or_eq_true, beq_iff_eq, not_and, Int.not_le, Int.not_lt, Int.toNat_natCast, beq_eq_false_iff_ne, ne_eq, eq_self, not_true_eq_false, not_false_eq_true] at hb) <;> (conv => whnf))
    | (refine RegX.rule (id := 4) hT rfl [] [(0, []), (1, [0]), (2, []), (3, []), (4, []), (5, [4]), (6, [4, 5]), (7, [4]), (8, [4]), (9, [4, 5, 6, 7, 8]), (10, [4, 5, 6, 7, 8, 9]), (11, [4, 5, 6, 7, 8, 9]), (12, [4, 5, 6, 7, 8]), (13, [4, 5, 6, 7, 8]), (14, []), (15, []), (16, [])] (by decide +kernel) ?_; conv => whnf)
    | (refine RegX.rule (id := 6) hT rfl [] [(0, []), (1, [0]), (2, [0, 1]), (3, [0, 1, 2]), (4, [0, 1, 2]), (5, [0, 1, 2, 3, 4]), (6, [0, 1, 2, 3, 4, 5]), (7, [0, 1, 2, 3, 4, 5]), (8, [0, 1, 2, 3, 4]), (9, [0, 1, 2, 3, 4]), (10, [0, 1, 2, 3, 4, 5, 6, 7, 8, 9]), (11, [0, 1, 2, 3, 4, 5, 6, 7, 8, 9, 10]), (12, [0, 1, 2, 3, 4, 5, 6, 7, 8, 9]), (13, [0, 1, 2, 3, 4, 5, 6, 7, 8, 9]), (14, [2, 3, 4]), (15, [2, 3, 4]), (16, []), (17, [])] (by decide +kernel) ?_; conv => whnf)
    | omega
    | (refine And.intro ?_ ?_; ((try dsimp only); first | omega | (refine ⟨by omega, by omega, Int.le_trans (Int.mul_le_mul_of_nonneg_right (Int.ofNat_le.2 (Nat.le_of_ble_eq_true (rfl : Nat.ble _ 1024 = true))) (by omega)) (by omega), by omega⟩) | (refine Nat.le_trans (Nat.mul_le_mul_left _ (Nat.le_of_ble_eq_true (rfl : Nat.ble _ 1024 = true))) ?_; omega) | (unfold inI64; omega) | (constructor <;> omega) | (simp only [inI64, List.length_cons, List.length_append, List.length_nil, List.length_set] at *; omega) | decide | (unfold inI64; decide)); conv => whnf)
    | omega | decide | assumption)
  refine LoopX.rule hT (C := []) (ι := Nat × List Mrk) (fun (i, c) => 1 ≤ i ∧ (i ≤ l.length ∨ i = 1) ∧ sameL l c)
    (fun (i, c) => mkSt [(0, .buf 1000001), (1, .d (.int .i64 0)), (2, .d (.int .i64 l.length)), (3, .fn g []), (8, .d (.int .i64 i))] [(1000001, seqB 43 5 mkF mk0 c)])
    (fun (i, _) => l.length - i) (1, l) ⟨by simp, by simp, rfl, fun x h => h⟩ (by (refine Entails.mk' [(1000001, 1000001)] rfl rfl ?_ ?_ <;> repeat' (first | exact True.intro | exact SV.le_refl _ | exact Res.le_refl _ | exact SV.le_int (by omega) | exact SV.le_any _ | refine And.intro ?_ ?_)); done) ?_
  rintro ⟨i, c⟩ ⟨p1, p2, p3⟩
  have hc0 := p3.1
  conv => whnf
  repeat' (first
    | (refine br_intro (fun hb => ?_) (fun hb => ?_) <;> (try simp only [decide_eq_true_eq, decide_eq_false_iff_not, Bool.not_eq_true', Bool.not_eq_false', Bool.and_eq_true, Bool.or_eq_true, beq_iff_eq, not_and, Int.not_le, Int.not_lt, Int.toNat_natCast, beq_eq_false_iff_ne, ne_eq, eq_self, not_true_eq_false, not_false_eq_true] at hb) <;> (conv => whnf))
    | (refine RegX.rule (id := 4) hT rfl [] [(0, []), (1, [0]), (2, []), (3, []), (4, []), (5, [4]), (6, [4, 5]), (7, [4]), (8, [4]), (9, [4, 5, 6, 7, 8]), (10, [4, 5, 6, 7, 8, 9]), (11, [4, 5, 6, 7, 8, 9]), (12, [4, 5, 6, 7, 8]), (13, [4, 5, 6, 7, 8]), (14, []), (15, []), (16, [])] (by decide +kernel) ?_; conv => whnf)
    | (refine RegX.rule (id := 6) hT rfl [] [(0, []), (1, [0]), (2, [0, 1]), (3, [0, 1, 2]), (4, [0, 1, 2]), (5, [0, 1, 2, 3, 4]), (6, [0, 1, 2, 3, 4, 5]), (7, [0, 1, 2, 3, 4, 5]), (8, [0, 1, 2, 3, 4]), (9, [0, 1, 2, 3, 4]), (10, [0, 1, 2, 3, 4, 5, 6, 7, 8, 9]), (11, [0, 1, 2, 3, 4, 5, 6, 7, 8, 9, 10]), (12, [0, 1, 2, 3, 4, 5, 6, 7, 8, 9]), (13, [0, 1, 2, 3, 4, 5, 6, 7, 8, 9]), (14, [2, 3, 4]), (15, [2, 3, 4]), (16, []), (17, [])] (by decide +kernel) ?_; conv => whnf)
    | omega
    | (refine And.intro ?_ ?_; ((try dsimp only); first | omega | (refine ⟨by omega, by omega, Int.le_trans (Int.mul_le_mul_of_nonneg_right (Int.ofNat_le.2 (Nat.le_of_ble_eq_true (rfl : Nat.ble _ 1024 = true))) (by omega)) (by omega), by omega⟩) | (refine Nat.le_trans (Nat.mul_le_mul_left _ (Nat.le_of_ble_eq_true (rfl : Nat.ble _ 1024 = true))) ?_; omega) | (unfold inI64; omega) | (constructor <;> omega) | (simp only [inI64, List.length_cons, List.length_append, List.length_nil, List.length_set] at *; omega) | decide | (unfold inI64; decide)); conv => whnf)
    | omega | decide | assumption)
  · refine LoopX.rule hT (C := []) (ι := Nat × List Mrk) (fun (j, c) => j ≤ i ∧ sameL l c)
      (fun (j, c) => mkSt [(0, .buf 1000001), (1, .d (.int .i64 0)), (2, .d (.int .i64 l.length)), (3, .fn g []), (8, .d (.int .i64 i)), (9, .d (.int .i64 j))] [(1000001, seqB 43 5 mkF mk0 c)])
      (fun (j, _) => j) (i, c) ⟨Nat.le_refl _, p3⟩ (by (refine Entails.mk' [(1000001, 1000001)] rfl rfl ?_ ?_ <;> repeat' (first | exact True.intro | exact SV.le_refl _ | exact Res.le_refl _ | exact SV.le_int (by omega) | exact SV.le_any _ | refine And.intro ?_ ?_)); done) ?_
    rintro ⟨j, b⟩ ⟨q1, q3⟩
    have hb0 := q3.1
    conv => whnf
    repeat' (first
      | (refine br_intro (fun hb => ?_) (fun hb => ?_) <;> (try simp only [decide_eq_true_eq, decide_eq_false_iff_not, Bool.not_eq_true', Bool.not_eq_false', Bool.and_eq_true, Bool.or_eq_true, beq_iff_eq, not_and, Int.not_le, Int.not_lt, Int.toNat_natCast, beq_eq_false_iff_ne, ne_eq, eq_self, not_true_eq_false, not_false_eq_true] at hb) <;> (conv => whnf))
      | (refine RegX.rule (id := 4) hT rfl [] [(0, []), (1, [0]), (2, []), (3, []), (4, []), (5, [4]), (6, [4, 5]), (7, [4]), (8, [4]), (9, [4, 5, 6, 7, 8]), (10, [4, 5, 6, 7, 8, 9]), (11, [4, 5, 6, 7, 8, 9]), (12, [4, 5, 6, 7, 8]), (13, [4, 5, 6, 7, 8]), (14, []), (15, []), (16, [])] (by decide +kernel) ?_; conv => whnf)
      | (refine RegX.rule (id := 6) hT rfl [] [(0, []), (1, [0]), (2, [0, 1]), (3, [0, 1, 2]), (4, [0, 1, 2]), (5, [0, 1, 2, 3, 4]), (6, [0, 1, 2, 3, 4, 5]), (7, [0, 1, 2, 3, 4, 5]), (8, [0, 1, 2, 3, 4]), (9, [0, 1, 2, 3, 4]), (10, [0, 1, 2, 3, 4, 5, 6, 7, 8, 9]), (11, [0, 1, 2, 3, 4, 5, 6, 7, 8, 9, 10]), (12, [0, 1, 2, 3, 4, 5, 6, 7, 8, 9]), (13, [0, 1, 2, 3, 4, 5, 6, 7, 8, 9]), (14, [2, 3, 4]), (15, [2, 3, 4]), (16, []), (17, [])] (by decide +kernel) ?_; conv => whnf)
      | omega
      | (refine And.intro ?_ ?_; ((try dsimp only); first | omega | (refine ⟨by omega, by omega, Int.le_trans (Int.mul_le_mul_of_nonneg_right (Int.ofNat_le.2 (Nat.le_of_ble_eq_true (rfl : Nat.ble _ 1024 = true))) (by omega)) (by omega), by omega⟩) | (refine Nat.le_trans (Nat.mul_le_mul_left _ (Nat.le_of_ble_eq_true (rfl : Nat.ble _ 1024 = true))) ?_; omega) | (unfold inI64; omega) | (constructor <;> omega) | (simp only [inI64, List.length_cons, List.length_append, List.length_nil, List.length_set] at *; omega) | decide | (unfold inI64; decide)); conv => whnf)
      | omega | decide | assumption)
    · refine CallX.of (hcmp (b.getD (j : Int).toNat mk0) (b.getD ((j : Int) - 1).toNat mk0) (q3.2 _ (getD_mem (by omega))) (q3.2 _ (getD_mem (by omega)))) [] rfl ⟨SV.le_refl _, SV.le_refl _, trivial⟩ trivial rfl rfl ?_
      rintro x rout ⟨rfl, rfl⟩
      refine ⟨rfl, ?_⟩
      conv => whnf
      repeat' (first
        | (refine br_intro (fun hb => ?_) (fun hb => ?_) <;> (try simp only [decide_eq_true_eq, decide_eq_false_iff_not, Bool.not_eq_true', Bool.not_eq_false', Bool.and_eq_true, Bool.or_eq_true, beq_iff_eq, not_and, Int.not_le, Int.not_lt, Int.toNat_natCast, beq_eq_false_iff_ne, ne_eq, eq_self, not_true_eq_false, not_false_eq_true] at hb) <;> (conv => whnf))
        | (refine RegX.rule (id := 4) hT rfl [] [(0, []), (1, [0]), (2, []), (3, []), (4, []), (5, [4]), (6, [4, 5]), (7, [4]), (8, [4]), (9, [4, 5, 6, 7, 8]), (10, [4, 5, 6, 7, 8, 9]), (11, [4, 5, 6, 7, 8, 9]), (12, [4, 5, 6, 7, 8]), (13, [4, 5, 6, 7, 8]), (14, []), (15, []), (16, [])] (by decide +kernel) ?_; conv => whnf)
        | (refine RegX.rule (id := 6) hT rfl [] [(0, []), (1, [0]), (2, [0, 1]), (3, [0, 1, 2]), (4, [0, 1, 2]), (5, [0, 1, 2, 3, 4]), (6, [0, 1, 2, 3, 4, 5]), (7, [0, 1, 2, 3, 4, 5]), (8, [0, 1, 2, 3, 4]), (9, [0, 1, 2, 3, 4]), (10, [0, 1, 2, 3, 4, 5, 6, 7, 8, 9]), (11, [0, 1, 2, 3, 4, 5, 6, 7, 8, 9, 10]), (12, [0, 1, 2, 3, 4, 5, 6, 7, 8, 9]), (13, [0, 1, 2, 3, 4, 5, 6, 7, 8, 9]), (14, [2, 3, 4]), (15, [2, 3, 4]), (16, []), (17, [])] (by decide +kernel) ?_; conv => whnf)
        | omega
        | (refine And.intro ?_ ?_; ((try dsimp only); first | omega | (refine ⟨by omega, by omega, Int.le_trans (Int.mul_le_mul_of_nonneg_right (Int.ofNat_le.2 (Nat.le_of_ble_eq_true (rfl : Nat.ble _ 1024 = true))) (by omega)) (by omega), by omega⟩) | (refine Nat.le_trans (Nat.mul_le_mul_left _ (Nat.le_of_ble_eq_true (rfl : Nat.ble _ 1024 = true))) ?_; omega) | (unfold inI64; omega) | (constructor <;> omega) | (simp only [inI64, List.length_cons, List.length_append, List.length_nil, List.length_set] at *; omega) | decide | (unfold inI64; decide)); conv => whnf)
        | omega | decide | assumption)
      · refine ⟨(j - 1, _), ⟨by omega, sameL_set (sameL_set q3 (q3.2 _ (getD_mem (i := ((j : Int) - 1).toNat) (x := mk0) (by omega)))) (q3.2 _ (getD_mem (i := (j : Int).toNat) (x := mk0) (by omega)))⟩, by show j - 1 < j; omega, Entails.mk' [(1000001, 1000001)] rfl rfl ⟨SV.le_refl _, SV.le_refl _, SV.le_refl _, SV.le_refl _, SV.le_refl _, SV.le_int (by omega), trivial⟩ ⟨Res.le_put2 (fun _ => rfl) (fun _ => rfl), trivial⟩⟩
      · exact ⟨(i + 1, b), ⟨by omega, by omega, q3⟩, by show l.length - (i + 1) < l.length - i; omega, (by (refine Entails.mk' [(1000001, 1000001)] rfl rfl ?_ ?_ <;> repeat' (first | exact True.intro | exact SV.le_refl _ | exact Res.le_refl _ | exact SV.le_int (by omega) | exact SV.le_any _ | refine And.intro ?_ ?_)); done)⟩
    · exact ⟨(i + 1, b), ⟨by omega, by omega, q3⟩, by show l.length - (i + 1) < l.length - i; omega, (by (refine Entails.mk' [(1000001, 1000001)] rfl rfl ?_ ?_ <;> repeat' (first | exact True.intro | exact SV.le_refl _ | exact Res.le_refl _ | exact SV.le_int (by omega) | exact SV.le_any _ | refine And.intro ?_ ?_)); done)⟩
  · refine .ret _ ?_
    conv => whnf
    exact ⟨_, ⟨rfl, c, p3, rfl⟩, Res.le_refl _, trivial⟩
-- slices.SortFunc of at most twelve: the same elements
theorem s188 (g : FuncId) (cmp : Mrk → Mrk → Int) (l : List Mrk) (hl : l.length ≤ 12) (lim : Int)
    (hcmp : ∀ p q, p ∈ l → q ∈ l → FSpec Tryz.prog g [.agg ((mkF p).map .d), .agg ((mkF q).map .d)] [] (fun y r => y = .d (.int .i64 (cmp p q)) ∧ r = [])) :
    FSpec Tryz.prog 35 [.buf 1000001, .d (.int .i64 0), .d (.int .i64 l.length), .d (.int .i64 lim), .fn g []] [(1000001, seqB 43 5 mkF mk0 l)]
      (fun y r => y = .tup [] ∧ ∃ c, sameL l c ∧ r = [(1000001, seqB 43 5 mkF mk0 c)]) := by
  refine spec_of hT (C := []) Tryz.func35 rfl Tryz.call35 rfl rfl rfl ?_
  conv => whnf
  refine LoopX.unroll hT (C := []) (fun _ _ h => h) (fun _ h => h) ?_
  conv => whnf
  repeat' (first
    | (refine br_intro (fun hb => ?_) (fun hb => ?_) <;> (try simp only [decide_eq_true_eq, decide_eq_false_iff_not, Bool.not_eq_true', Bool.not_eq_false', Bool.and_eq_true, Bool.or_eq_true, beq_iff_eq, not_and, Int.not_le, Int.not_lt, Int.toNat_natCast, beq_eq_false_iff_ne, ne_eq, eq_self, not_true_eq_false, not_false_eq_true] at hb) <;> (conv => whnf))
    | (refine RegX.rule (id := 17) hT rfl [] [(0, []), (1, []), (2, []), (3, []), (4, [3]), (5, [3, 4]), (6, [3, 4]), (7, [3]), (8, [3]), (9, [3, 4, 5, 6, 7, 8]), (10, [3, 4, 5, 6, 7, 8, 9]), (11, [3, 4, 5, 6, 7, 8]), (12, [3, 4, 5, 6, 7, 8]), (13, []), (14, []), (15, []), (16, [])] (by decide +kernel) ?_; conv => whnf)
    | omega
    | (refine And.intro ?_ ?_; ((try dsimp only); first | omega | (refine ⟨by omega, by omega, Int.le_trans (Int.mul_le_mul_of_nonneg_right (Int.ofNat_le.2 (Nat.le_of_ble_eq_true (rfl : Nat.ble _ 1024 = true))) (by omega)) (by omega), by omega⟩) | (refine Nat.le_trans (Nat.mul_le_mul_left _ (Nat.le_of_ble_eq_true (rfl : Nat.ble _ 1024 = true))) ?_; omega) | (unfold inI64; omega) | (constructor <;> omega) | (simp only [inI64, List.length_cons, List.length_append, List.length_nil, List.length_set] at *; omega) | decide | (unfold inI64; decide)); conv => whnf)
    | omega | decide | assumption)
  refine CallX.of (s212 g cmp l (by omega) hcmp) [(1000001, 1000001)] rfl ⟨SV.le_refl _, SV.le_refl _, SV.le_refl _, SV.le_refl _, trivial⟩ ⟨Res.le_refl _, trivial⟩ rfl rfl ?_
  rintro x rout ⟨rfl, c, hc, rfl⟩
  refine ⟨rfl, ?_⟩
  conv => whnf
  refine .ret _ ?_
  conv => whnf
  exact ⟨_, ⟨rfl, c, hc, rfl⟩, Res.le_refl _, trivial⟩
theorem s156 (g : FuncId) (cmp : Mrk → Mrk → Int) (l : List Mrk) (hl : l.length ≤ 12)
    (hcmp : ∀ p q, p ∈ l → q ∈ l → FSpec Tryz.prog g [.agg ((mkF p).map .d), .agg ((mkF q).map .d)] [] (fun y r => y = .d (.int .i64 (cmp p q)) ∧ r = [])) :
    FSpec Tryz.prog 18 [.buf 1000001, .fn g []] [(1000001, seqB 43 5 mkF mk0 l)]
      (fun y r => y = .tup [] ∧ ∃ c, sameL l c ∧ r = [(1000001, seqB 43 5 mkF mk0 c)]) := by
  refine spec_of hT (C := []) Tryz.func18 rfl Tryz.call18 rfl rfl rfl ?_
  conv => whnf
  repeat' (first
    | (refine br_intro (fun hb => ?_) (fun hb => ?_) <;> (try simp only [decide_eq_true_eq, decide_eq_false_iff_not, Bool.not_eq_true', Bool.not_eq_false', Bool.and_eq_true, Bool.or_eq_true, beq_iff_eq, not_and, Int.not_le, Int.not_lt, Int.toNat_natCast, beq_eq_false_iff_ne, ne_eq, eq_self, not_true_eq_false, not_false_eq_true] at hb) <;> (conv => whnf))
    | omega
    | (refine And.intro ?_ ?_; ((try dsimp only); first | omega | (refine ⟨by omega, by omega, Int.le_trans (Int.mul_le_mul_of_nonneg_right (Int.ofNat_le.2 (Nat.le_of_ble_eq_true (rfl : Nat.ble _ 1024 = true))) (by omega)) (by omega), by omega⟩) | (refine Nat.le_trans (Nat.mul_le_mul_left _ (Nat.le_of_ble_eq_true (rfl : Nat.ble _ 1024 = true))) ?_; omega) | (unfold inI64; omega) | (constructor <;> omega) | (simp only [inI64, List.length_cons, List.length_append, List.length_nil, List.length_set] at *; omega) | decide | (unfold inI64; decide)); conv => whnf)
    | omega | decide | assumption)
  refine CallX.of (sBitsLen l.length hl) [] rfl ⟨SV.le_refl _, trivial⟩ trivial rfl rfl ?_
  rintro x rout ⟨⟨lim, rfl⟩, rfl⟩
  refine ⟨rfl, ?_⟩
  conv => whnf
  repeat' (first
    | (refine br_intro (fun hb => ?_) (fun hb => ?_) <;> (try simp only [decide_eq_true_eq, decide_eq_false_iff_not, Bool.not_eq_true', Bool.not_eq_false', Bool.and_eq_true, Bool.or_eq_true, beq_iff_eq, not_and, Int.not_le, Int.not_lt, Int.toNat_natCast, beq_eq_false_iff_ne, ne_eq, eq_self, not_true_eq_false, not_false_eq_true] at hb) <;> (conv => whnf))
    | omega
    | (refine And.intro ?_ ?_; ((try dsimp only); first | omega | (refine ⟨by omega, by omega, Int.le_trans (Int.mul_le_mul_of_nonneg_right (Int.ofNat_le.2 (Nat.le_of_ble_eq_true (rfl : Nat.ble _ 1024 = true))) (by omega)) (by omega), by omega⟩) | (refine Nat.le_trans (Nat.mul_le_mul_left _ (Nat.le_of_ble_eq_true (rfl : Nat.ble _ 1024 = true))) ?_; omega) | (unfold inI64; omega) | (constructor <;> omega) | (simp only [inI64, List.length_cons, List.length_append, List.length_nil, List.length_set] at *; omega) | decide | (unfold inI64; decide)); conv => whnf)
    | omega | decide | assumption)
  refine CallX.of (s188 g cmp l hl lim hcmp) [(1000001, 1000001)] rfl ⟨SV.le_refl _, SV.le_refl _, SV.le_refl _, SV.le_refl _, SV.le_refl _, trivial⟩ ⟨Res.le_refl _, trivial⟩ rfl rfl ?_
  rintro x rout ⟨rfl, c, hc, rfl⟩
  refine ⟨rfl, ?_⟩
  conv => whnf
  refine .ret _ ?_
  conv => whnf
  exact ⟨_, ⟨rfl, c, hc, rfl⟩, Res.le_refl _, trivial⟩
-- slices.Compact: some of the elements
theorem s158 (l : List Mrk) (hl : l.length ≤ 2^20) :
    FSpec Tryz.prog 20 [.buf 1000001] [(1000001, seqB 43 5 mkF mk0 l)]
      (fun y r => ∃ c, subL l c ∧ ∃ d, (d = 1000001 ∨ d = 59) ∧ y = .buf d ∧ r = [(d, seqB 43 5 mkF mk0 c)]) := by
  refine spec_of hT (C := []) Tryz.func20 rfl Tryz.call20 rfl rfl rfl ?_
  conv => whnf
  repeat' (first
    | (refine br_intro (fun hb => ?_) (fun hb => ?_) <;> (try simp only [decide_eq_true_eq, decide_eq_false_iff_not, Bool.not_eq_true', Bool.not_eq_false', Bool.and_eq_true, Bool.or_eq_true, beq_iff_eq, not_and, Int.not_le, Int.not_lt, Int.toNat_natCast, beq_eq_false_iff_ne, ne_eq, eq_self, not_true_eq_false, not_false_eq_true] at hb) <;> (conv => whnf))
    | (refine RegX.rule (id := 6) hT rfl [] [(0, []), (1, [0]), (2, []), (3, []), (4, [0, 1, 2, 3]), (5, [0, 1, 2, 3, 4]), (6, [0, 1, 2, 3, 4]), (7, [0, 1, 2, 3]), (8, [0, 1, 2, 3]), (9, [])] (by decide +kernel) ?_; conv => whnf)
    | (refine RegX.rule (id := 11) hT rfl [] [(0, []), (1, [0]), (2, []), (3, []), (4, [0, 1, 2, 3]), (5, [0, 1, 2, 3, 4]), (6, [0, 1, 2, 3, 4]), (7, [0, 1, 2, 3]), (8, [0, 1, 2, 3]), (9, [])] (by decide +kernel) ?_; conv => whnf)
    | omega
    | (refine And.intro ?_ ?_; ((try dsimp only); first | omega | (refine ⟨by omega, by omega, Int.le_trans (Int.mul_le_mul_of_nonneg_right (Int.ofNat_le.2 (Nat.le_of_ble_eq_true (rfl : Nat.ble _ 1024 = true))) (by omega)) (by omega), by omega⟩) | (refine Nat.le_trans (Nat.mul_le_mul_left _ (Nat.le_of_ble_eq_true (rfl : Nat.ble _ 1024 = true))) ?_; omega) | (unfold inI64; omega) | (constructor <;> omega) | (simp only [inI64, List.length_cons, List.length_append, List.length_nil, List.length_set] at *; omega) | decide | (unfold inI64; decide)); conv => whnf)
    | omega | decide | assumption)
  · refine .ret _ ?_
    conv => whnf
    exact ⟨_, ⟨l, ⟨Nat.le_refl _, fun x h => h⟩, 1000001, .inl rfl, rfl, rfl⟩, Res.le_refl _, trivial⟩
  refine LoopX.rule hT (C := []) (ι := Nat) (fun k => 1 ≤ k ∧ k ≤ l.length) (fun k => mkSt [(0, .buf 1000001), (3, .d (.int .i64 k))] [(1000001, seqB 43 5 mkF mk0 l)]) (fun k => l.length - k) 1 ⟨by omega, by omega⟩ (by (refine Entails.mk' [(1000001, 1000001)] rfl rfl ?_ ?_ <;> repeat' (first | exact True.intro | exact SV.le_refl _ | exact Res.le_refl _ | exact SV.le_int (by omega) | exact SV.le_any _ | refine And.intro ?_ ?_)); done) ?_
  rintro k ⟨p1, p2⟩
  conv => whnf
  repeat' (first
    | (refine SliceX.first (lo := none) rfl ?_; conv => whnf)
    | (refine SliceX.look (lo := some _) rfl ?_; conv => whnf)
    | (refine br_intro (fun hb => ?_) (fun hb => ?_) <;> (try simp only [decide_eq_true_eq, decide_eq_false_iff_not, Bool.not_eq_true', Bool.not_eq_false', Bool.and_eq_true, Bool.or_eq_true, beq_iff_eq, not_and, Int.not_le, Int.not_lt, Int.toNat_natCast, beq_eq_false_iff_ne, ne_eq, eq_self, not_true_eq_false, not_false_eq_true] at hb) <;> (conv => whnf))
    | (refine RegX.rule (id := 6) hT rfl [] [(0, []), (1, [0]), (2, []), (3, []), (4, [0, 1, 2, 3]), (5, [0, 1, 2, 3, 4]), (6, [0, 1, 2, 3, 4]), (7, [0, 1, 2, 3]), (8, [0, 1, 2, 3]), (9, [])] (by decide +kernel) ?_; conv => whnf)
    | (refine RegX.rule (id := 11) hT rfl [] [(0, []), (1, [0]), (2, []), (3, []), (4, [0, 1, 2, 3]), (5, [0, 1, 2, 3, 4]), (6, [0, 1, 2, 3, 4]), (7, [0, 1, 2, 3]), (8, [0, 1, 2, 3]), (9, [])] (by decide +kernel) ?_; conv => whnf)
    | omega
    | (refine And.intro ?_ ?_; ((try dsimp only); first | omega | (refine ⟨by omega, by omega, Int.le_trans (Int.mul_le_mul_of_nonneg_right (Int.ofNat_le.2 (Nat.le_of_ble_eq_true (rfl : Nat.ble _ 1024 = true))) (by omega)) (by omega), by omega⟩) | (refine Nat.le_trans (Nat.mul_le_mul_left _ (Nat.le_of_ble_eq_true (rfl : Nat.ble _ 1024 = true))) ?_; omega) | (unfold inI64; omega) | (constructor <;> omega) | (simp only [inI64, List.length_cons, List.length_append, List.length_nil, List.length_set] at *; omega) | decide | (unfold inI64; decide)); conv => whnf)
    | omega | decide | assumption)
  · have hsub : SV.le (SV.sub 1000001 5 (k : Int).toNat (((l.length : Nat) : Int) - (k : Int)).toNat) (SV.sub 1000001 5 k (l.length - k)) := by
      rw [show (k : Int).toNat = k by omega, show (((l.length : Nat) : Int) - (k : Int)).toNat = l.length - k by omega]; exact SV.le_refl _
    refine LoopX.rule hT (C := []) (ι := Nat × Nat × List Mrk) (fun (q, m, c) => k ≤ q ∧ q < k + m ∧ 1 ≤ m ∧ k + m ≤ l.length ∧ sameL l c)
      (fun (q, m, c) => mkSt [(0, .buf 1000001), (3, .d (.int .i64 q)), (4, .sub 1000001 5 k (l.length - k)), (5, .d (.int .i64 m))] [(1000001, seqB 43 5 mkF mk0 c)])
      (fun (_, m, _) => l.length - m) (k, 1, l) ⟨by omega, by omega, by omega, by omega, rfl, fun x h => h⟩ (by (refine Entails.mk' [(1000001, 1000001)] rfl rfl ?_ ?_ <;> repeat' (first | exact True.intro | exact SV.le_refl _ | exact Res.le_refl _ | (exact hsub) | exact SV.le_int (by omega) | exact SV.le_any _ | refine And.intro ?_ ?_)); done) ?_
    rintro ⟨q, m, c⟩ ⟨r1, r2, r3, r4, r5⟩
    have hc0 := r5.1
    conv => whnf
    repeat' (first
      | (refine SliceX.first (lo := none) rfl ?_; conv => whnf)
      | (refine SliceX.look (lo := some _) rfl ?_; conv => whnf)
      | (refine br_intro (fun hb => ?_) (fun hb => ?_) <;> (try simp only [decide_eq_true_eq, decide_eq_false_iff_not, Bool.not_eq_true', Bool.not_eq_false', Bool.and_eq_true, Bool.or_eq_true, beq_iff_eq, not_and, Int.not_le, Int.not_lt, Int.toNat_natCast, beq_eq_false_iff_ne, ne_eq, eq_self, not_true_eq_false, not_false_eq_true] at hb) <;> (conv => whnf))
      | (refine RegX.rule (id := 6) hT rfl [] [(0, []), (1, [0]), (2, []), (3, []), (4, [0, 1, 2, 3]), (5, [0, 1, 2, 3, 4]), (6, [0, 1, 2, 3, 4]), (7, [0, 1, 2, 3]), (8, [0, 1, 2, 3]), (9, [])] (by decide +kernel) ?_; conv => whnf)
      | (refine RegX.rule (id := 11) hT rfl [] [(0, []), (1, [0]), (2, []), (3, []), (4, [0, 1, 2, 3]), (5, [0, 1, 2, 3, 4]), (6, [0, 1, 2, 3, 4]), (7, [0, 1, 2, 3]), (8, [0, 1, 2, 3]), (9, [])] (by decide +kernel) ?_; conv => whnf)
      | omega
      | (refine And.intro ?_ ?_; ((try dsimp only); first | omega | (refine ⟨by omega, by omega, Int.le_trans (Int.mul_le_mul_of_nonneg_right (Int.ofNat_le.2 (Nat.le_of_ble_eq_true (rfl : Nat.ble _ 1024 = true))) (by omega)) (by omega), by omega⟩) | (refine Nat.le_trans (Nat.mul_le_mul_left _ (Nat.le_of_ble_eq_true (rfl : Nat.ble _ 1024 = true))) ?_; omega) | (unfold inI64; omega) | (constructor <;> omega) | (simp only [inI64, List.length_cons, List.length_append, List.length_nil, List.length_set] at *; omega) | decide | (unfold inI64; decide)); conv => whnf)
      | omega | decide | assumption)
    · have em : k + (m : Int).toNat < l.length := by omega
      refine ⟨(q + 1, m + 1, c.set (q : Int).toNat (c.getD (k + (m : Int).toNat) mk0)), ⟨by omega, by omega, by omega, by omega, sameL_set r5 (r5.2 _ (getD_mem (by omega)))⟩, by show l.length - (m + 1) < l.length - m; omega, Entails.mk' [(1000001, 1000001)] rfl rfl ⟨SV.le_refl _, SV.le_int (by omega), SV.le_refl _, SV.le_int (by omega), trivial⟩ ⟨Res.le_putF (fun _ _ => rfl), trivial⟩⟩
    · exact ⟨(q, m + 1, c), ⟨by omega, by omega, by omega, by omega, r5⟩, by show l.length - (m + 1) < l.length - m; omega, (by (refine Entails.mk' [(1000001, 1000001)] rfl rfl ?_ ?_ <;> repeat' (first | exact True.intro | exact SV.le_refl _ | exact Res.le_refl _ | exact SV.le_int (by omega) | exact SV.le_any _ | refine And.intro ?_ ?_)); done)⟩
    · refine .ret _ ?_
      conv => whnf
      refine ⟨_, ⟨c.take q, ⟨by rw [List.length_take]; omega, fun x hx => r5.2 x (List.mem_of_mem_take hx)⟩, 59, .inr rfl, rfl, rfl⟩, Res.le_buf (by rw [List.length_take]; omega) (fun i hi => ?_), trivial⟩
      have hi : i < q := by
        have : i < (q : Int).toNat := hi
        omega
      have h1 : Nat.ble (q : Int).toNat i = false := by
        rw [← Bool.not_eq_true, Nat.ble_eq]; omega
      show (bif Nat.ble (q : Int).toNat i && _ then _ else rowF mkF mk0 c i) = _
      rw [h1]
      simp only [Bool.false_and, cond_false, rowF]
      rw [List.getD_eq_getElem?_getD, List.getD_eq_getElem?_getD, List.getElem?_take_of_lt hi]
  · exact ⟨k + 1, ⟨by omega, by omega⟩, by omega, (by (refine Entails.mk' [(1000001, 1000001)] rfl rfl ?_ ?_ <;> repeat' (first | exact True.intro | exact SV.le_refl _ | exact Res.le_refl _ | exact SV.le_int (by omega) | exact SV.le_any _ | refine And.intro ?_ ?_)); done)⟩
  · refine .ret _ ?_
    conv => whnf
    exact ⟨_, ⟨l, ⟨Nat.le_refl _, fun x h => h⟩, 1000001, .inl rfl, rfl, rfl⟩, Res.le_refl _, trivial⟩
end Go.Proofs.YtnkdlkgannnfhaaGreat
set_option maxRecDepth 20000
namespace Go.Proofs.YtnkdlkgannnfhaaGreat
open Go Go.Eng
def mBd (m : Mrk) : Prop := 0 ≤ m.x ∧ m.x ≤ 5000 ∧ 0 ≤ m.y ∧ m.y ≤ 5000 ∧ 1 ≤ m.size ∧ m.size ≤ 2000
def rBd (r : Rul) : Prop := 0 ≤ r.near ∧ r.near ≤ 5000 ∧ 0 ≤ r.slack ∧ r.slack ≤ 2000 ∧ 0 ≤ r.join ∧ r.join ≤ 5000 ∧ 0 ≤ r.part ∧ r.part ≤ 1000
theorem sq_bd {x : Int} (h1 : -5000 ≤ x) (h2 : x ≤ 5000) : 0 ≤ x * x ∧ x * x ≤ 25000000 := by
  rcases Int.le_total 0 x with q | q
  · exact ⟨Int.mul_nonneg q q, Int.le_trans (Int.mul_le_mul h2 h2 q (by omega)) (by omega)⟩
  · have e : x * x = (-x) * (-x) := by rw [Int.neg_mul_neg]
    rw [e]
    exact ⟨Int.mul_nonneg (by omega) (by omega), Int.le_trans (Int.mul_le_mul (by omega : -x ≤ 5000) (by omega : -x ≤ 5000) (by omega) (by omega)) (by omega)⟩
-- mark.distance
theorem z149 (a b : Mrk) (ha : mBd a) (hb1 : mBd b) : FSpec Tryz.prog 46 [.agg ((mkF a).map .d), .agg ((mkF b).map .d)] [] (fun x r => x = .d (.int .i64 (distM a b)) ∧ r = []) := by
  unfold mBd at ha hb1
  have h1 := sq_bd (x := a.x - b.x) (by omega) (by omega)
  have h2 := sq_bd (x := a.y - b.y) (by omega) (by omega)
  refine spec_of hT (C := []) Tryz.func46 rfl Tryz.call46 rfl rfl rfl ?_
  conv => whnf
  repeat' (first
    | (refine br_intro (fun hb => ?_) (fun hb => ?_) <;> (try simp only [decide_eq_true_eq, decide_eq_false_iff_not, Bool.not_eq_true', Bool.not_eq_false', Bool.and_eq_true, Bool.or_eq_true, beq_iff_eq, not_and, Int.not_le, Int.not_lt, Int.toNat_natCast, beq_eq_false_iff_ne, ne_eq, eq_self, not_true_eq_false, not_false_eq_true] at hb) <;> (conv => whnf))
    | omega
    | (refine And.intro ?_ ?_; ((try dsimp only); first | omega | (refine ⟨by omega, by omega, Int.le_trans (Int.mul_le_mul_of_nonneg_right (Int.ofNat_le.2 (Nat.le_of_ble_eq_true (rfl : Nat.ble _ 1024 = true))) (by omega)) (by omega), by omega⟩) | (refine Nat.le_trans (Nat.mul_le_mul_left _ (Nat.le_of_ble_eq_true (rfl : Nat.ble _ 1024 = true))) ?_; omega) | (unfold inI64; omega) | (constructor <;> omega) | (simp only [inI64, List.length_cons, List.length_append, List.length_nil, List.length_set] at *; omega) | decide | (unfold inI64; decide)); conv => whnf)
    | omega | decide | assumption)
  refine .ret _ ?_
  conv => whnf
  refine ⟨[], ⟨?_, rfl⟩, trivial⟩
  conv => lhs; whnf
  rfl
-- Distance
-- mark.canBe
-- CanBe
theorem cmpPr_eq (p q : Prg) : cmpPr p q = firstE [cmpI p.a q.a, cmpI p.b q.b] := by
  unfold cmpPr
  simp only [firstE]
  grind
-- mark.byPair
theorem cmpIL_two (p q : Prg) : cmpIL [p.a, p.b] [q.a, q.b] = cmpPr p q := by
  unfold cmpPr
  simp only [cmpIL]
  grind
-- beats' own
-- slices.CompareFunc of pairings
-- beats
-- slices.Clone of pairings, of an own row: what it gives back is changed no more
-- the same, of a frozen row
-- the same, of a row that is changed no more: what it gives back is the caller's own
-- slices.Equal of pairings
/-- Whether some pairing has a number of the newer report, and where. -/
def pIx (p : Prg → Bool) (l : List Prg) : Int := ixF (fun i => p (l.getD i pr0)) l.length
theorem pIx_any (p : Prg → Bool) (l : List Prg) : decide (0 ≤ pIx p l) = l.any p := by
  have hb : -1 ≤ pIx p l ∧ pIx p l < l.length ∧ (0 ≤ pIx p l → p (l.getD (pIx p l).toNat pr0) = true) := ixF_bd
  rw [Bool.eq_iff_iff, decide_eq_true_eq, List.any_eq_true]
  constructor
  · intro h
    exact ⟨_, getD_mem (by omega), hb.2.2 h⟩
  · rintro ⟨x, hx, hp⟩
    obtain ⟨i, hi, rfl⟩ := List.mem_iff_getElem.1 hx
    rcases Int.lt_or_le (pIx p l) 0 with q | q
    · exfalso
      have h0 : pIx p l = -1 := by omega
      have : ∀ n, ixF (fun i => p (l.getD i pr0)) n = -1 → ∀ j, j < n → p (l.getD j pr0) = false := by
        intro n
        induction n with
        | zero => intro _ j hj; omega
        | succ n ih =>
          intro hn j hj
          rw [ixF] at hn
          split at hn
          · rename_i h1
            split at hn
            · omega
            · rename_i h2
              by_cases e : j = n
              · subst e; simpa using h2
              · exact ih h1 j (by omega)
          · rename_i h1; exact absurd hn h1
      have h1 := this l.length h0 i hi
      rw [List.getD_eq_getElem?_getD, List.getElem?_eq_getElem hi, Option.getD_some, hp] at h1
      cases h1
    · exact q
abbrev icelm (k : Int) : Res := .cells 3 [.d (.int .i64 k)]
-- slices.IndexFunc of pairings
-- slices.ContainsFunc of pairings
-- slices.IndexFunc of pairings
-- slices.ContainsFunc of pairings
end Go.Proofs.YtnkdlkgannnfhaaGreat
set_option maxRecDepth 20000
namespace Go.Proofs.YtnkdlkgannnfhaaGreat
open Go Go.Eng
-- cmp.isNaN
theorem z291 (x y : Int) : FSpec Tryz.prog 105 [.d (.int .i64 x), .d (.int .i64 y)] [] (fun o r => o = .d (.bool (decide (x < y))) ∧ r = []) := by
  refine spec_of hT (C := []) Tryz.func105 rfl Tryz.call105 rfl rfl rfl ?_
  conv => whnf
  repeat' (first
    | (refine CallX.exact (s210 _) rfl rfl ?_; rotate_right; conv => whnf)
    | (refine br_intro (fun hb => ?_) (fun hb => ?_) <;> (try simp only [decide_eq_true_eq, decide_eq_false_iff_not, Bool.not_eq_true', Bool.not_eq_false', Bool.and_eq_true, Bool.or_eq_true, beq_iff_eq, not_and, Int.not_le, Int.not_lt, Int.toNat_natCast, beq_eq_false_iff_ne, ne_eq, eq_self, not_true_eq_false, not_false_eq_true] at hb) <;> (conv => whnf))
    | omega
    | (refine And.intro ?_ ?_; ((try dsimp only); first | omega | (refine ⟨by omega, by omega, Int.le_trans (Int.mul_le_mul_of_nonneg_right (Int.ofNat_le.2 (Nat.le_of_ble_eq_true (rfl : Nat.ble _ 1024 = true))) (by omega)) (by omega), by omega⟩) | (refine Nat.le_trans (Nat.mul_le_mul_left _ (Nat.le_of_ble_eq_true (rfl : Nat.ble _ 1024 = true))) ?_; omega) | (unfold inI64; omega) | (constructor <;> omega) | (simp only [inI64, List.length_cons, List.length_append, List.length_nil, List.length_set] at *; omega) | decide | (unfold inI64; decide)); conv => whnf)
    | omega | decide | assumption)
  all_goals
    refine .ret _ ?_
    conv => whnf
    refine ⟨[], ⟨?_, rfl⟩, trivial⟩
    conv => lhs; whnf
    try (first | rfl | simp [*])
theorem getD_setI {l : List Int} {i k : Nat} {x : Int} (hi : i < l.length) : (l.set i x).getD k 0 = if k = i then x else l.getD k 0 := by
  rw [List.getD_eq_getElem?_getD, List.getElem?_set]
  by_cases h : i = k
  · subst h; simp [hi]
  · rw [if_neg h, if_neg (fun e => h e.symm), List.getD_eq_getElem?_getD]
theorem getD_set_swap {l : List Int} {i j k : Nat} (hi : i < l.length) (hj : j < l.length) : ((l.set i (l.getD j 0)).set j (l.getD i 0)).getD k 0 = if k = j then l.getD i 0 else if k = i then l.getD j 0 else l.getD k 0 := by
  rw [getD_setI (by simpa using hj), getD_setI hi]
/-- A swap goes on with the order. -/
theorem swap_ord {b : List Int} {i j : Nat} (hj : 0 < j) (hji : j ≤ i) (hi : i < b.length) (h : ∀ p q, p < q → q ≤ i → q ≠ j → b.getD p 0 ≤ b.getD q 0) (hlt : b.getD j 0 < b.getD (j - 1) 0) :
    ∀ p q, p < q → q ≤ i → q ≠ j - 1 → ((b.set j (b.getD (j - 1) 0)).set (j - 1) (b.getD j 0)).getD p 0 ≤ ((b.set j (b.getD (j - 1) 0)).set (j - 1) (b.getD j 0)).getD q 0 := by
  intro p q h1 h2 h3
  rw [getD_set_swap (by omega) (by omega), getD_set_swap (by omega) (by omega), if_neg h3]
  by_cases e1 : q = j
  · subst e1
    rw [if_pos rfl]
    by_cases e2 : p = q - 1
    · rw [if_pos e2]; omega
    · rw [if_neg e2, if_neg (by omega)]
      exact h p (q - 1) (by omega) (by omega) (by omega)
  · rw [if_neg e1]
    by_cases e2 : p = j - 1
    · rw [if_pos e2]; exact h j q (by omega) h2 e1
    · rw [if_neg e2]
      by_cases e3 : p = j
      · rw [if_pos e3]; exact h (j - 1) q (by omega) h2 e1
      · rw [if_neg e3]; exact h p q h1 h2 e1
theorem stop_ord {b : List Int} {i j : Nat} (hji : j ≤ i) (h : ∀ p q, p < q → q ≤ i → q ≠ j → b.getD p 0 ≤ b.getD q 0) (hs : j = 0 ∨ b.getD (j - 1) 0 ≤ b.getD j 0) : ∀ p q, p < q → q < i + 1 → b.getD p 0 ≤ b.getD q 0 := by
  intro p q h1 h2
  by_cases e : q = j
  · subst e
    rcases hs with hs | hs
    · omega
    · by_cases e2 : p = q - 1
      · rw [e2]; exact hs
      · have := h p (q - 1) (by omega) (by omega) (by omega); omega
  · exact h p q h1 (by omega) e
theorem swap_perm {l : List Int} {i j : Nat} (hi : i < l.length) (hj : j < l.length) : ((l.set i (l.getD j 0)).set j (l.getD i 0)).Perm l := by
  have e1 : l.getD j 0 = l[j] := by rw [List.getD_eq_getElem?_getD, List.getElem?_eq_getElem hj]; rfl
  have e2 : l.getD i 0 = l[i] := by rw [List.getD_eq_getElem?_getD, List.getElem?_eq_getElem hi]; rfl
  rw [e1, e2]
  exact List.set_set_perm hi hj
-- slices' insertion sort of numbers
theorem z285 (g : List Int) (hg : g.length ≤ 2^40) : FSpec Tryz.prog 99 [.buf 1000001, .d (.int .i64 0), .d (.int .i64 g.length)] [(1000001, seqB 3 1 iF 0 g)]
    (fun y r => y = .tup [] ∧ ∃ c : List Int, c.Perm g ∧ (∀ p q, p < q → q < c.length → c.getD p 0 ≤ c.getD q 0) ∧ r = [(1000001, seqB 3 1 iF 0 c)]) := by
  refine spec_of hT (C := []) Tryz.func99 rfl Tryz.call99 rfl rfl rfl ?_
  conv => whnf
  repeat' (first
    | (refine br_intro (fun hb => ?_) (fun hb => ?_) <;> (try simp only [decide_eq_true_eq, decide_eq_false_iff_not, Bool.not_eq_true', Bool.not_eq_false', Bool.and_eq_true, Bool.or_eq_true, beq_iff_eq, not_and, Int.not_le, Int.not_lt, Int.toNat_natCast, beq_eq_false_iff_ne, ne_eq, eq_self, not_true_eq_false, not_false_eq_true] at hb) <;> (conv => whnf))
    | (refine RegX.rule (id := 4) hT rfl [] [(0, []), (1, [0]), (2, []), (3, []), (4, []), (5, [4]), (6, []), (7, []), (8, [4, 5, 6, 7]), (9, [4, 5, 6, 7, 8]), (10, [4, 5, 6, 7, 8]), (11, [4, 5, 6, 7]), (12, [4, 5, 6, 7]), (13, []), (14, [])] (by decide +kernel) ?_; conv => whnf)
    | (refine RegX.rule (id := 6) hT rfl [] [(0, []), (1, [0]), (2, [0, 1]), (3, [0, 1, 2]), (4, [0, 1, 2]), (5, [0, 1, 2, 3, 4]), (6, [0, 1, 2, 3, 4, 5]), (7, [0, 1, 2, 3, 4, 5]), (8, [0, 1, 2, 3, 4]), (9, [0, 1, 2, 3, 4]), (10, [0, 1, 2, 3, 4, 5, 6, 7, 8, 9]), (11, [0, 1, 2, 3, 4, 5, 6, 7, 8, 9, 10]), (12, [0, 1, 2, 3, 4, 5, 6, 7, 8, 9]), (13, [0, 1, 2, 3, 4, 5, 6, 7, 8, 9]), (14, [2, 3, 4]), (15, [2, 3, 4]), (16, []), (17, [])] (by decide +kernel) ?_; conv => whnf)
    | omega
    | (refine And.intro ?_ ?_; ((try dsimp only); first | omega | (refine ⟨by omega, by omega, Int.le_trans (Int.mul_le_mul_of_nonneg_right (Int.ofNat_le.2 (Nat.le_of_ble_eq_true (rfl : Nat.ble _ 1024 = true))) (by omega)) (by omega), by omega⟩) | (refine Nat.le_trans (Nat.mul_le_mul_left _ (Nat.le_of_ble_eq_true (rfl : Nat.ble _ 1024 = true))) ?_; omega) | (unfold inI64; omega) | (constructor <;> omega) | (simp only [inI64, List.length_cons, List.length_append, List.length_nil, List.length_set] at *; omega) | decide | (unfold inI64; decide)); conv => whnf)
    | omega | decide | assumption)
  refine LoopX.rule hT (C := []) (ι := Nat × List Int) (fun (i, c) => 1 ≤ i ∧ (i ≤ g.length ∨ i = 1) ∧ c.Perm g ∧ ∀ p q, p < q → q < i → c.getD p 0 ≤ c.getD q 0)
    (fun (i, c) => mkSt [(0, .buf 1000001), (1, .d (.int .i64 0)), (2, .d (.int .i64 g.length)), (6, .d (.int .i64 i))] [(1000001, seqB 3 1 iF 0 c)])
    (fun (i, _) => g.length - i) (1, g) ⟨by simp, by simp, .refl _, fun p q h1 h2 => by omega⟩ (by (refine Entails.mk' [(1000001, 1000001)] rfl rfl ?_ ?_ <;> repeat' (first | exact True.intro | exact SV.le_refl _ | exact Res.le_refl _ | exact SV.le_int (by omega) | exact SV.le_any _ | refine And.intro ?_ ?_)); done) ?_
  rintro ⟨i, c⟩ ⟨p1, p2, p3, p4⟩
  have hc0 := p3.length_eq
  conv => whnf
  repeat' (first
    | (refine br_intro (fun hb => ?_) (fun hb => ?_) <;> (try simp only [decide_eq_true_eq, decide_eq_false_iff_not, Bool.not_eq_true', Bool.not_eq_false', Bool.and_eq_true, Bool.or_eq_true, beq_iff_eq, not_and, Int.not_le, Int.not_lt, Int.toNat_natCast, beq_eq_false_iff_ne, ne_eq, eq_self, not_true_eq_false, not_false_eq_true] at hb) <;> (conv => whnf))
    | (refine RegX.rule (id := 4) hT rfl [] [(0, []), (1, [0]), (2, []), (3, []), (4, []), (5, [4]), (6, []), (7, []), (8, [4, 5, 6, 7]), (9, [4, 5, 6, 7, 8]), (10, [4, 5, 6, 7, 8]), (11, [4, 5, 6, 7]), (12, [4, 5, 6, 7]), (13, []), (14, [])] (by decide +kernel) ?_; conv => whnf)
    | (refine RegX.rule (id := 6) hT rfl [] [(0, []), (1, [0]), (2, [0, 1]), (3, [0, 1, 2]), (4, [0, 1, 2]), (5, [0, 1, 2, 3, 4]), (6, [0, 1, 2, 3, 4, 5]), (7, [0, 1, 2, 3, 4, 5]), (8, [0, 1, 2, 3, 4]), (9, [0, 1, 2, 3, 4]), (10, [0, 1, 2, 3, 4, 5, 6, 7, 8, 9]), (11, [0, 1, 2, 3, 4, 5, 6, 7, 8, 9, 10]), (12, [0, 1, 2, 3, 4, 5, 6, 7, 8, 9]), (13, [0, 1, 2, 3, 4, 5, 6, 7, 8, 9]), (14, [2, 3, 4]), (15, [2, 3, 4]), (16, []), (17, [])] (by decide +kernel) ?_; conv => whnf)
    | omega
    | (refine And.intro ?_ ?_; ((try dsimp only); first | omega | (refine ⟨by omega, by omega, Int.le_trans (Int.mul_le_mul_of_nonneg_right (Int.ofNat_le.2 (Nat.le_of_ble_eq_true (rfl : Nat.ble _ 1024 = true))) (by omega)) (by omega), by omega⟩) | (refine Nat.le_trans (Nat.mul_le_mul_left _ (Nat.le_of_ble_eq_true (rfl : Nat.ble _ 1024 = true))) ?_; omega) | (unfold inI64; omega) | (constructor <;> omega) | (simp only [inI64, List.length_cons, List.length_append, List.length_nil, List.length_set] at *; omega) | decide | (unfold inI64; decide)); conv => whnf)
    | omega | decide | assumption)
  · refine LoopX.rule hT (C := []) (ι := Nat × List Int) (fun (j, c) => j ≤ i ∧ c.Perm g ∧ ∀ p q, p < q → q ≤ i → q ≠ j → c.getD p 0 ≤ c.getD q 0)
      (fun (j, c) => mkSt [(0, .buf 1000001), (1, .d (.int .i64 0)), (2, .d (.int .i64 g.length)), (6, .d (.int .i64 i)), (7, .d (.int .i64 j))] [(1000001, seqB 3 1 iF 0 c)])
      (fun (j, _) => j) (i, c) ⟨Nat.le_refl _, p3, fun p q h1 h2 h3 => p4 p q h1 (by omega)⟩ (by (refine Entails.mk' [(1000001, 1000001)] rfl rfl ?_ ?_ <;> repeat' (first | exact True.intro | exact SV.le_refl _ | exact Res.le_refl _ | exact SV.le_int (by omega) | exact SV.le_any _ | refine And.intro ?_ ?_)); done) ?_
    rintro ⟨j, b⟩ ⟨q1, q3, q4⟩
    have hb0 := q3.length_eq
    conv => whnf
    repeat' (first
      | (refine CallX.exact (z291 _ _) rfl rfl ?_; rotate_right; conv => whnf)
      | (refine br_intro (fun hb => ?_) (fun hb => ?_) <;> (try simp only [decide_eq_true_eq, decide_eq_false_iff_not, Bool.not_eq_true', Bool.not_eq_false', Bool.and_eq_true, Bool.or_eq_true, beq_iff_eq, not_and, Int.not_le, Int.not_lt, Int.toNat_natCast, beq_eq_false_iff_ne, ne_eq, eq_self, not_true_eq_false, not_false_eq_true] at hb) <;> (conv => whnf))
      | (refine RegX.rule (id := 4) hT rfl [] [(0, []), (1, [0]), (2, []), (3, []), (4, []), (5, [4]), (6, []), (7, []), (8, [4, 5, 6, 7]), (9, [4, 5, 6, 7, 8]), (10, [4, 5, 6, 7, 8]), (11, [4, 5, 6, 7]), (12, [4, 5, 6, 7]), (13, []), (14, [])] (by decide +kernel) ?_; conv => whnf)
      | (refine RegX.rule (id := 6) hT rfl [] [(0, []), (1, [0]), (2, [0, 1]), (3, [0, 1, 2]), (4, [0, 1, 2]), (5, [0, 1, 2, 3, 4]), (6, [0, 1, 2, 3, 4, 5]), (7, [0, 1, 2, 3, 4, 5]), (8, [0, 1, 2, 3, 4]), (9, [0, 1, 2, 3, 4]), (10, [0, 1, 2, 3, 4, 5, 6, 7, 8, 9]), (11, [0, 1, 2, 3, 4, 5, 6, 7, 8, 9, 10]), (12, [0, 1, 2, 3, 4, 5, 6, 7, 8, 9]), (13, [0, 1, 2, 3, 4, 5, 6, 7, 8, 9]), (14, [2, 3, 4]), (15, [2, 3, 4]), (16, []), (17, [])] (by decide +kernel) ?_; conv => whnf)
      | omega
      | (refine And.intro ?_ ?_; ((try dsimp only); first | omega | (refine ⟨by omega, by omega, Int.le_trans (Int.mul_le_mul_of_nonneg_right (Int.ofNat_le.2 (Nat.le_of_ble_eq_true (rfl : Nat.ble _ 1024 = true))) (by omega)) (by omega), by omega⟩) | (refine Nat.le_trans (Nat.mul_le_mul_left _ (Nat.le_of_ble_eq_true (rfl : Nat.ble _ 1024 = true))) ?_; omega) | (unfold inI64; omega) | (constructor <;> omega) | (simp only [inI64, List.length_cons, List.length_append, List.length_nil, List.length_set] at *; omega) | decide | (unfold inI64; decide)); conv => whnf)
      | omega | decide | assumption)
    · have e1 : ((j : Int) - 1).toNat = j - 1 := by omega
      refine ⟨(j - 1, (b.set j (b.getD (j - 1) 0)).set (j - 1) (b.getD j 0)), ⟨by omega, (swap_perm (by omega) (by omega)).trans q3, swap_ord (by omega) q1 (by omega) q4 (by rw [← e1]; assumption)⟩, by show j - 1 < j; omega, Entails.mk' [(1000001, 1000001)] rfl rfl ⟨SV.le_refl _, SV.le_refl _, SV.le_refl _, SV.le_refl _, SV.le_int (by omega), trivial⟩ ⟨?_, trivial⟩⟩
      rw [← e1]
      exact Res.le_put2 (fun _ => rfl) (fun _ => rfl)
    all_goals
      refine ⟨(i + 1, b), ⟨by omega, by omega, q3, stop_ord q1 q4 ?_⟩, by show g.length - (i + 1) < g.length - i; omega, Entails.mk' [(1000001, 1000001)] rfl rfl ⟨SV.le_refl _, SV.le_refl _, SV.le_refl _, SV.le_refl _, trivial⟩ ⟨Res.le_refl _, trivial⟩⟩
      have e1 : j = 0 ∨ ((j : Int) - 1).toNat = j - 1 := by omega
      first
        | exact .inl (by omega)
        | (right; rcases e1 with e1 | e1
           · omega
           · rw [← e1]; omega)
  · refine .ret _ ?_
    conv => whnf
    exact ⟨_, ⟨rfl, c, p3, fun p q h1 h2 => p4 p q h1 (by omega), rfl⟩, Res.le_refl _, trivial⟩
-- slices.Sort of at most twelve numbers
theorem z241 (g : List Int) (hg : g.length ≤ 12) (lim : Int) : FSpec Tryz.prog 78 [.buf 1000001, .d (.int .i64 0), .d (.int .i64 g.length), .d (.int .i64 lim)] [(1000001, seqB 3 1 iF 0 g)]
    (fun y r => y = .tup [] ∧ ∃ c : List Int, c.Perm g ∧ (∀ p q, p < q → q < c.length → c.getD p 0 ≤ c.getD q 0) ∧ r = [(1000001, seqB 3 1 iF 0 c)]) := by
  refine spec_of hT (C := []) Tryz.func78 rfl Tryz.call78 rfl rfl rfl ?_
  conv => whnf
  refine LoopX.unroll hT (C := []) (fun _ _ h => h) (fun _ h => h) ?_
  conv => whnf
  repeat' (first
    | (refine br_intro (fun hb => ?_) (fun hb => ?_) <;> (try simp only [decide_eq_true_eq, decide_eq_false_iff_not, Bool.not_eq_true', Bool.not_eq_false', Bool.and_eq_true, Bool.or_eq_true, beq_iff_eq, not_and, Int.not_le, Int.not_lt, Int.toNat_natCast, beq_eq_false_iff_ne, ne_eq, eq_self, not_true_eq_false, not_false_eq_true] at hb) <;> (conv => whnf))
    | (refine RegX.rule (id := 17) hT rfl [] [(0, []), (1, []), (2, []), (3, []), (4, [3]), (5, [3]), (6, []), (7, []), (8, [3, 4, 5, 6, 7]), (9, [3, 4, 5, 6, 7, 8]), (10, [3, 4, 5, 6, 7]), (11, [3, 4, 5, 6, 7]), (12, []), (13, []), (14, [])] (by decide +kernel) ?_; conv => whnf)
    | omega
    | (refine And.intro ?_ ?_; ((try dsimp only); first | omega | (refine ⟨by omega, by omega, Int.le_trans (Int.mul_le_mul_of_nonneg_right (Int.ofNat_le.2 (Nat.le_of_ble_eq_true (rfl : Nat.ble _ 1024 = true))) (by omega)) (by omega), by omega⟩) | (refine Nat.le_trans (Nat.mul_le_mul_left _ (Nat.le_of_ble_eq_true (rfl : Nat.ble _ 1024 = true))) ?_; omega) | (unfold inI64; omega) | (constructor <;> omega) | (simp only [inI64, List.length_cons, List.length_append, List.length_nil, List.length_set] at *; omega) | decide | (unfold inI64; decide)); conv => whnf)
    | omega | decide | assumption)
  refine CallX.of (z285 g (by omega)) [(1000001, 1000001)] rfl ⟨SV.le_refl _, SV.le_refl _, SV.le_refl _, trivial⟩ ⟨Res.le_refl _, trivial⟩ rfl rfl ?_
  rintro x rout ⟨rfl, c, h1, h2, rfl⟩
  refine ⟨rfl, ?_⟩
  conv => whnf
  refine .ret _ ?_
  conv => whnf
  exact ⟨_, ⟨rfl, c, h1, h2, rfl⟩, Res.le_refl _, trivial⟩
theorem z185 (g : List Int) (hg : g.length ≤ 12) : FSpec Tryz.prog 47 [.buf 1000001] [(1000001, seqB 3 1 iF 0 g)]
    (fun y r => y = .tup [] ∧ ∃ c : List Int, c.Perm g ∧ (∀ p q, p < q → q < c.length → c.getD p 0 ≤ c.getD q 0) ∧ r = [(1000001, seqB 3 1 iF 0 c)]) := by
  refine spec_of hT (C := []) Tryz.func47 rfl Tryz.call47 rfl rfl rfl ?_
  conv => whnf
  repeat' (first
    | (refine br_intro (fun hb => ?_) (fun hb => ?_) <;> (try simp only [decide_eq_true_eq, decide_eq_false_iff_not, Bool.not_eq_true', Bool.not_eq_false', Bool.and_eq_true, Bool.or_eq_true, beq_iff_eq, not_and, Int.not_le, Int.not_lt, Int.toNat_natCast, beq_eq_false_iff_ne, ne_eq, eq_self, not_true_eq_false, not_false_eq_true] at hb) <;> (conv => whnf))
    | omega
    | (refine And.intro ?_ ?_; ((try dsimp only); first | omega | (refine ⟨by omega, by omega, Int.le_trans (Int.mul_le_mul_of_nonneg_right (Int.ofNat_le.2 (Nat.le_of_ble_eq_true (rfl : Nat.ble _ 1024 = true))) (by omega)) (by omega), by omega⟩) | (refine Nat.le_trans (Nat.mul_le_mul_left _ (Nat.le_of_ble_eq_true (rfl : Nat.ble _ 1024 = true))) ?_; omega) | (unfold inI64; omega) | (constructor <;> omega) | (simp only [inI64, List.length_cons, List.length_append, List.length_nil, List.length_set] at *; omega) | decide | (unfold inI64; decide)); conv => whnf)
    | omega | decide | assumption)
  refine CallX.of (sBitsLen g.length hg) [] rfl ⟨SV.le_refl _, trivial⟩ trivial rfl rfl ?_
  rintro x rout ⟨⟨lim, rfl⟩, rfl⟩
  refine ⟨rfl, ?_⟩
  conv => whnf
  repeat' (first
    | (refine br_intro (fun hb => ?_) (fun hb => ?_) <;> (try simp only [decide_eq_true_eq, decide_eq_false_iff_not, Bool.not_eq_true', Bool.not_eq_false', Bool.and_eq_true, Bool.or_eq_true, beq_iff_eq, not_and, Int.not_le, Int.not_lt, Int.toNat_natCast, beq_eq_false_iff_ne, ne_eq, eq_self, not_true_eq_false, not_false_eq_true] at hb) <;> (conv => whnf))
    | omega
    | (refine And.intro ?_ ?_; ((try dsimp only); first | omega | (refine ⟨by omega, by omega, Int.le_trans (Int.mul_le_mul_of_nonneg_right (Int.ofNat_le.2 (Nat.le_of_ble_eq_true (rfl : Nat.ble _ 1024 = true))) (by omega)) (by omega), by omega⟩) | (refine Nat.le_trans (Nat.mul_le_mul_left _ (Nat.le_of_ble_eq_true (rfl : Nat.ble _ 1024 = true))) ?_; omega) | (unfold inI64; omega) | (constructor <;> omega) | (simp only [inI64, List.length_cons, List.length_append, List.length_nil, List.length_set] at *; omega) | decide | (unfold inI64; decide)); conv => whnf)
    | omega | decide | assumption)
  refine CallX.of (z241 g hg lim) [(1000001, 1000001)] rfl ⟨SV.le_refl _, SV.le_refl _, SV.le_refl _, SV.le_refl _, trivial⟩ ⟨Res.le_refl _, trivial⟩ rfl rfl ?_
  rintro x rout ⟨rfl, c, h1, h2, rfl⟩
  refine ⟨rfl, ?_⟩
  conv => whnf
  refine .ret _ ?_
  conv => whnf
  exact ⟨_, ⟨rfl, c, h1, h2, rfl⟩, Res.le_refl _, trivial⟩
end Go.Proofs.YtnkdlkgannnfhaaGreat
set_option maxRecDepth 20000
namespace Go.Proofs.YtnkdlkgannnfhaaGreat
open Go Go.Eng
def stepM (r : Rul) (a b : List Mrk) (d i : Nat) (now st : MSt) (k : Nat) : MSt := if okM r a b i now.1 k then mtch r a b d (i + 1) (now.1 ++ [⟨i, k⟩], now.2 + distM (a.getD i mk0) (b.getD k mk0)) st else st
theorem mtch_succ (r : Rul) (a b : List Mrk) (d i : Nat) (now st : MSt) : mtch r a b (d + 1) i now st = mtch r a b d (i + 1) now ((List.range b.length).foldl (stepM r a b d i now) st) := rfl
theorem mtch_succL {r : Rul} {a b : List Mrk} {m : Mrk} (d i : Nat) (now st : MSt) (hm : sameM (a.getD i mk0) m = true) : mtch r a b (d + 1) i now st = mtch r a b d (i + 1) now ((likeM b m).foldl (stepM r a b d i now) st) := by
  rw [mtch_succ]
  exact congrArg _ (mtch_like d i now st hm).symm
theorem likeM_lt {b : List Mrk} {m : Mrk} {j : Nat} (h : j < (likeM b m).length) : (likeM b m).getD j 0 < b.length := by
  have : (likeM b m).getD j 0 ∈ likeM b m := getD_mem h
  unfold likeM at this
  exact List.mem_range.1 (List.mem_filter.1 this).1
def nowOk (i : Nat) (m : MSt) : Prop := m.1.length ≤ i ∧ 0 ≤ m.2 ∧ m.2 ≤ 50000000 * m.1.length
theorem nowOk_snoc {i k : Nat} {m : MSt} {x : Int} (h : nowOk i m) (h1 : 0 ≤ x) (h2 : x ≤ 50000000) : nowOk (i + 1) (m.1 ++ [⟨i, k⟩], m.2 + x) := by
  unfold nowOk at *
  simp only [List.length_append, List.length_singleton]
  omega
theorem nowOk_up {i : Nat} {m : MSt} (h : nowOk i m) : nowOk (i + 1) m := by unfold nowOk at *; omega
theorem foldM_len {r : Rul} {a b : List Mrk} {d i : Nat} {now st : MSt} {n : Nat} (h1 : now.1.length + d + 1 ≤ n) (h2 : st.1.length ≤ n) (l : List Nat) : (l.foldl (stepM r a b d i now) st).1.length ≤ n := by
  refine foldl_inv (q := fun s : MSt => s.1.length ≤ n) (fun s k _ hs => ?_) h2
  unfold stepM
  split
  · exact mtch_len _ _ _ _ n (by simp; omega) hs
  · exact hs
-- group
end Go.Proofs.YtnkdlkgannnfhaaGreat
set_option maxRecDepth 20000
namespace Go.Proofs.YtnkdlkgannnfhaaGreat
open Go Go.Eng
def grF : List Int → List DV := fun g => [ints g]
abbrev grsB (l : List (List Int)) : Res := seqB 22 1 grF [] l
abbrev grs (l : List (List Int)) : DV := seqD 1 grF [] l
noncomputable abbrev labM (r : Rul) (l : List Mrk) : Nat → Nat := labC l.length (joinB r l)
/-- The groups of marks, up to a mark. -/
noncomputable def grI (r : Rul) (l : List Mrk) (i : Nat) : List (List Int) := (grpsF l.length (labM r l) i).map toI
noncomputable def grpI (r : Rul) (l : List Mrk) (i : Nat) : List Int := toI (grpF l.length (labM r l) i)
theorem labM_lab (r : Rul) (l : List Mrk) : isLab l.length (joinB r l) (labM r l) := labC_lab _ _
theorem grI_none {r : Rul} {l : List Mrk} {i : Nat} (h : labM r l i ≠ i) : grI r l (i + 1) = grI r l i := by
  unfold grI
  rw [grpsF, if_pos ((labM_lab r l).none (joinB_symm r l) h)]
theorem grI_some {r : Rul} {l : List Mrk} {i : Nat} (hi : i < l.length) (h : labM r l i = i) : grI r l (i + 1) = grI r l i ++ [grpI r l i] := by
  unfold grI grpI
  have : grpF l.length (labM r l) i ≠ [] := fun q => by
    have := isLab.some hi h
    rw [q] at this; simp at this
  rw [grpsF, if_neg this, List.map_append]; rfl
theorem grI_len (r : Rul) (l : List Mrk) : ∀ i, (grI r l i).length ≤ i := by
  intro i
  induction i with
  | zero => exact Nat.le_refl _
  | succ i ih =>
    have h : grI r l (i + 1) = grI r l i ∨ grI r l (i + 1) = grI r l i ++ [grpI r l i] := by
      unfold grI grpI
      rw [grpsF]
      split
      · exact .inl rfl
      · exact .inr (by rw [List.map_append]; rfl)
    rcases h with h | h
    · rw [h]; omega
    · rw [h, List.length_append]; simp; omega
theorem toI_inj {g h : List Nat} (e : toI g = toI h) : g = h := by
  induction g generalizing h with
  | nil => cases h with
    | nil => rfl
    | cons y h => cases e
  | cons x g ih =>
    cases h with
    | nil => cases e
    | cons y h =>
      simp only [toI, List.map_cons, List.cons.injEq] at e
      have h1 : x = y := by have := e.1; exact Int.ofNat.inj this
      rw [h1, ih e.2]

theorem toI_snocC (l : List Nat) (k : Nat) : toI (l ++ [k]) = toI l ++ [(k : Int)] := by simp [toI]
theorem inc_extI : ∀ {l m : List Int}, l.Pairwise (· < ·) → m.Pairwise (· < ·) → (∀ x, x ∈ l ↔ x ∈ m) → l = m := by
  intro l
  induction l with
  | nil =>
    intro m _ _ h
    cases m with
    | nil => rfl
    | cons y m => have := (h y).2 (by simp); simp at this
  | cons x l ih =>
    intro m hl hm h
    cases m with
    | nil => have := (h x).1 (by simp); simp at this
    | cons y m =>
      rw [List.pairwise_cons] at hl hm
      have hxy : x = y := by
        have h1 := (h x).1 (by simp)
        have h2 := (h y).2 (by simp)
        rcases List.mem_cons.1 h1 with q | q
        · exact q
        · rcases List.mem_cons.1 h2 with q2 | q2
          · exact q2.symm
          · have := hm.1 x q; have := hl.1 y q2; omega
      subst hxy
      rw [ih hl.2 hm.2 (fun z => ?_)]
      constructor
      · intro hz
        rcases List.mem_cons.1 ((h z).1 (List.mem_cons_of_mem _ hz)) with q | q
        · subst q; have := hl.1 z hz; omega
        · exact q
      · intro hz
        rcases List.mem_cons.1 ((h z).2 (List.mem_cons_of_mem _ hz)) with q | q
        · subst q; have := hm.1 z hz; omega
        · exact q
theorem toI_inc {g : List Nat} (h : g.Pairwise (· < ·)) : (toI g).Pairwise (· < ·) := by
  unfold toI
  rw [List.pairwise_map]
  exact h.imp (fun q => Int.ofNat_lt.2 q)
theorem toI_mem {g : List Nat} {x : Int} : x ∈ toI g ↔ ∃ k ∈ g, x = (k : Int) := by
  unfold toI
  rw [List.mem_map]
  constructor
  · rintro ⟨k, h1, h2⟩; exact ⟨k, h1, h2.symm⟩
  · rintro ⟨k, h1, h2⟩; exact ⟨k, h1, h2.symm⟩
/-- What is sorted is the group. -/
theorem sort_grp {n : Nat} {f : Nat → Nat} {i : Nat} {g : List Nat} {c : List Int} (hn : g.Nodup) (hg : ∀ k, k < n → (k ∈ g ↔ f k = i)) (hl : ∀ x ∈ g, x < n) (hp : c.Perm (toI g)) (hs : ∀ p q, p < q → q < c.length → c.getD p 0 ≤ c.getD q 0) : c = toI (grpF n f i) := by
  have hnd : c.Nodup := by
    rw [hp.nodup_iff]
    unfold toI List.Nodup
    rw [List.pairwise_map]
    exact (List.nodup_iff_pairwise_ne.1 hn).imp (fun q e => q (Int.ofNat.inj e))
  have hle : c.Pairwise (· ≤ ·) := by
    rw [List.pairwise_iff_getElem]
    intro p q hp hq h
    have := hs p q h hq
    rw [List.getD_eq_getElem?_getD, List.getD_eq_getElem?_getD, List.getElem?_eq_getElem hp, List.getElem?_eq_getElem hq] at this
    exact this
  have hlt : c.Pairwise (· < ·) := (hle.and (List.nodup_iff_pairwise_ne.1 hnd)).imp (fun q => by have := q.1; have := q.2; omega)
  refine inc_extI hlt (toI_inc (grpF_inc n f i)) (fun x => ?_)
  rw [hp.mem_iff, toI_mem, toI_mem]
  constructor
  · rintro ⟨k, h1, h2⟩; exact ⟨k, grpF_mem.2 ⟨hl k h1, (hg k (hl k h1)).1 h1⟩, h2⟩
  · rintro ⟨k, h1, h2⟩
    obtain ⟨h3, h4⟩ := grpF_mem.1 h1
    exact ⟨k, (hg k h3).2 h4, h2⟩
def seenOk (r : Rul) (l : List Mrk) (i : Nat) (sn : List Bool) : Prop := sn.length = l.length ∧ ∀ k, k < l.length → (sn.getD k false = true ↔ labM r l k < i)
theorem seen_skip {r : Rul} {l : List Mrk} {i : Nat} {sn : List Bool} (h : seenOk r l i sn) (hi : i < l.length) (hs : sn.getD i false = true) : labM r l i ≠ i ∧ seenOk r l (i + 1) sn := by
  have h1 := (h.2 i hi).1 hs
  refine ⟨by omega, h.1, fun k hk => ?_⟩
  rw [h.2 k hk]
  have : labM r l k ≠ i := fun q => by
    have := (labM_lab r l).idem (joinB_symm r l) hk
    rw [q] at this; omega
  omega
theorem setB_get {l : List Bool} {j k : Nat} {b : Bool} (hj : j < l.length) : (l.set j b).getD k false = if k = j then b else l.getD k false := by
  rw [List.getD_eq_getElem?_getD, List.getElem?_set]
  by_cases h : j = k
  · subst h; simp [hj]
  · rw [if_neg h, if_neg (fun e => h e.symm), List.getD_eq_getElem?_getD]
theorem bfs_start {r : Rul} {l : List Mrk} {i : Nat} {sn : List Bool} (h : seenOk r l i sn) (hi : i < l.length) (hs : sn.getD i false = false) : labM r l i = i ∧ bfs l.length (joinB r l) (labM r l) i (fun k => (sn.set i true).getD k false) [i] := by
  have h1 : labM r l i = i := by
    have h2 := (labM_lab r l).le hi
    have h3 : ¬ labM r l i < i := fun q => by rw [(h.2 i hi).2 q] at hs; cases hs
    omega
  refine ⟨h1, bfs.start (seen := fun k => sn.getD k false) hi h1 h.2 ?_ (fun k hk => ?_)⟩
  · show (sn.set i true).getD i false = true
    rw [setB_get (by rw [h.1]; exact hi), if_pos rfl]
  · show (sn.set i true).getD k false = sn.getD k false
    rw [setB_get (by rw [h.1]; exact hi), if_neg hk]
theorem bfs_add {r : Rul} {l : List Mrk} {i x k : Nat} {sn : List Bool} {g : List Nat} (h : bfs l.length (joinB r l) (labM r l) i (fun k => sn.getD k false) g) (hsl : sn.length = l.length) (hx : x ∈ g) (hk : k < l.length) (hJ : joinB r l k x = true) (hu : sn.getD k false = false) :
    bfs l.length (joinB r l) (labM r l) i (fun y => (sn.set k true).getD y false) (g ++ [k]) :=
  h.add (labM_lab r l) (joinB_symm r l) hx hk hJ hu (by show (sn.set k true).getD k false = true; rw [setB_get (by omega), if_pos rfl]) (fun y hy => by show (sn.set k true).getD y false = sn.getD y false; rw [setB_get (by omega), if_neg hy])
theorem bfs_len {r : Rul} {l : List Mrk} {i : Nat} {sn : Nat → Bool} {g : List Nat} (h : bfs l.length (joinB r l) (labM r l) i sn g) : g.length ≤ l.length := nodup_len h.nodup (fun x hx => (h.ins x hx).1)
-- mark.groups
set_option maxHeartbeats 4000000 in
theorem z191 (r : Rul) (l : List Mrk) (hr : rBd r) (hl12 : l.length ≤ 12) (hl : ∀ i, i < l.length → mBd (l.getD i mk0)) : FSpec Tryz.prog 25 [.agg ((ruF r).map .d), .d (mrks l)] [] (fun y r' => y = .d (grs (grI r l l.length)) ∧ r' = []) := by
  have hjj := sq_bd (x := r.join) (by unfold rBd at hr; omega) (by unfold rBd at hr; omega)
  refine spec_of hT (C := []) Tryz.func25 rfl Tryz.call25 rfl rfl rfl ?_
  conv => whnf
  repeat' (first
    | (refine br_intro (fun hb => ?_) (fun hb => ?_) <;> (try simp only [decide_eq_true_eq, decide_eq_false_iff_not, Bool.not_eq_true', Bool.not_eq_false', Bool.and_eq_true, Bool.or_eq_true, beq_iff_eq, not_and, Int.not_le, Int.not_lt, Int.toNat_natCast, beq_eq_false_iff_ne, ne_eq, eq_self, not_true_eq_false, not_false_eq_true] at hb) <;> (conv => whnf))
    | (refine RegX.rule (id := 15) hT rfl [] [(0, []), (1, [0]), (2, []), (3, []), (4, []), (5, []), (6, []), (7, [6]), (8, []), (9, []), (10, []), (11, [6, 7, 8, 9, 10]), (12, [6, 7, 8, 9, 10, 11]), (13, [6, 7, 8, 9, 10, 11, 12]), (14, [6, 7, 8, 9, 10, 11]), (15, [6, 7, 8, 9, 10, 11]), (16, [6, 7, 8, 9, 10]), (17, [6, 7, 8, 9, 10]), (18, [6, 7, 8, 9, 10]), (19, []), (20, []), (21, []), (22, []), (23, [22]), (24, []), (25, []), (26, [22, 23, 24, 25]), (27, [22, 23, 24, 25, 26]), (28, [22, 23, 24, 25, 26, 27]), (29, [22, 23, 24, 25, 26]), (30, [22, 23, 24, 25, 26]), (31, [22, 23, 24, 25]), (32, [22, 23, 24, 25]), (34, [22, 23, 24, 25, 26, 27, 28, 29, 30, 31, 32]), (35, [22, 23, 24, 25, 26, 27, 28, 29, 30, 31, 32]), (36, [22, 23, 24, 25, 26, 27, 28, 29, 30, 31, 32, 34, 35]), (37, [22, 23, 24, 25, 26, 27, 28, 29, 30, 31, 32, 34, 35]), (38, [22, 23, 24, 25, 26, 27, 28, 29, 30, 31, 32]), (33, [34, 35, 36, 37, 38]), (39, []), (40, [])] (by decide +kernel) ?_; conv => whnf)
    | omega
    | (refine And.intro ?_ ?_; ((try dsimp only); first | omega | (refine ⟨by omega, by omega, Int.le_trans (Int.mul_le_mul_of_nonneg_right (Int.ofNat_le.2 (Nat.le_of_ble_eq_true (rfl : Nat.ble _ 1024 = true))) (by omega)) (by omega), by omega⟩) | (refine Nat.le_trans (Nat.mul_le_mul_left _ (Nat.le_of_ble_eq_true (rfl : Nat.ble _ 1024 = true))) ?_; omega) | (unfold inI64; omega) | (constructor <;> omega) | (simp only [inI64, List.length_cons, List.length_append, List.length_nil, List.length_set] at *; omega) | decide | (unfold inI64; decide)); conv => whnf)
    | omega | decide | assumption)
  refine LoopX.rule hT (C := [27]) (ι := Nat × List Bool) (fun (i, sn) => i ≤ l.length ∧ seenOk r l i sn) (fun (i, sn) => mkSt [(1, .d (mrks l)), (2, .ptr 2 0), (5, .buf 5), (6, .buf 6), (14, .d (mrks l)), (15, .d (.int .i64 l.length)), (16, .d (.int .i64 i))]
    [(2, .cells 29 ((ruF r).map .d)), (5, grsB (grI r l i)), (6, seqB 4 1 bF false sn)]) (fun (i, _) => l.length - i) (0, List.replicate l.length false) ⟨by simp, ?_⟩ ?_ ?_
  · refine ⟨by simp, fun k hk => ?_⟩
    rw [List.getD_eq_getElem?_getD]; simp [hk]
  · refine (Entails.nil 5 5 22 1 (rowF grF [] []) rfl rfl (by decide)).trans (Entails.mk' [(2, 2), (5, 5), (6, 13)] rfl rfl ⟨SV.le_refl _, SV.le_refl _, SV.le_refl _, SV.le_refl _, SV.le_refl _, SV.le_refl _, SV.le_refl _, trivial⟩ ⟨Res.le_refl _, Res.le_refl _, Res.le_buf (by simp) (fun i hi => ?_), trivial⟩)
    have hi' : i < l.length := by simpa using hi
    simp only [rowF]
    rw [List.getD_eq_getElem?_getD]; simp [hi']; rfl
  rintro ⟨i, sn⟩ ⟨p1, p2⟩
  have hsl := p2.1
  have hgl := grI_len r l i
  have e1 : (i : Int).toNat = i := Int.toNat_natCast i
  conv => whnf
  repeat' (first
    | (refine br_intro (fun hb => ?_) (fun hb => ?_) <;> (try simp only [decide_eq_true_eq, decide_eq_false_iff_not, Bool.not_eq_true', Bool.not_eq_false', Bool.and_eq_true, Bool.or_eq_true, beq_iff_eq, not_and, Int.not_le, Int.not_lt, Int.toNat_natCast, beq_eq_false_iff_ne, ne_eq, eq_self, not_true_eq_false, not_false_eq_true] at hb) <;> (conv => whnf))
    | (refine RegX.rule (id := 15) hT rfl [] [(0, []), (1, [0]), (2, []), (3, []), (4, []), (5, []), (6, []), (7, [6]), (8, []), (9, []), (10, []), (11, [6, 7, 8, 9, 10]), (12, [6, 7, 8, 9, 10, 11]), (13, [6, 7, 8, 9, 10, 11, 12]), (14, [6, 7, 8, 9, 10, 11]), (15, [6, 7, 8, 9, 10, 11]), (16, [6, 7, 8, 9, 10]), (17, [6, 7, 8, 9, 10]), (18, [6, 7, 8, 9, 10]), (19, []), (20, []), (21, []), (22, []), (23, [22]), (24, []), (25, []), (26, [22, 23, 24, 25]), (27, [22, 23, 24, 25, 26]), (28, [22, 23, 24, 25, 26, 27]), (29, [22, 23, 24, 25, 26]), (30, [22, 23, 24, 25, 26]), (31, [22, 23, 24, 25]), (32, [22, 23, 24, 25]), (34, [22, 23, 24, 25, 26, 27, 28, 29, 30, 31, 32]), (35, [22, 23, 24, 25, 26, 27, 28, 29, 30, 31, 32]), (36, [22, 23, 24, 25, 26, 27, 28, 29, 30, 31, 32, 34, 35]), (37, [22, 23, 24, 25, 26, 27, 28, 29, 30, 31, 32, 34, 35]), (38, [22, 23, 24, 25, 26, 27, 28, 29, 30, 31, 32]), (33, [34, 35, 36, 37, 38]), (39, []), (40, [])] (by decide +kernel) ?_; conv => whnf)
    | omega
    | (refine And.intro ?_ ?_; ((try dsimp only); first | omega | (refine ⟨by omega, by omega, Int.le_trans (Int.mul_le_mul_of_nonneg_right (Int.ofNat_le.2 (Nat.le_of_ble_eq_true (rfl : Nat.ble _ 1024 = true))) (by omega)) (by omega), by omega⟩) | (refine Nat.le_trans (Nat.mul_le_mul_left _ (Nat.le_of_ble_eq_true (rfl : Nat.ble _ 1024 = true))) ?_; omega) | (unfold inI64; omega) | (constructor <;> omega) | (simp only [inI64, List.length_cons, List.length_append, List.length_nil, List.length_set] at *; omega) | decide | (unfold inI64; decide)); conv => whnf)
    | omega | decide | assumption)
  · obtain ⟨h1, h2⟩ := seen_skip p2 (by omega) (by assumption)
    refine ⟨(i + 1, sn), ⟨by omega, h2⟩, (show l.length - (i + 1) < l.length - i by omega), ?_⟩
    show Entails _ (mkSt _ [(2, .cells 29 ((ruF r).map .d)), (5, grsB (grI r l (i + 1))), (6, seqB 4 1 bF false sn)])
    rw [grI_none h1]
    exact Entails.mk' [(2, 2), (5, 5), (6, 6)] rfl rfl ⟨SV.le_refl _, SV.le_refl _, SV.le_refl _, SV.le_refl _, SV.le_refl _, SV.le_refl _, SV.le_refl _, trivial⟩ ⟨Res.le_refl _, Res.le_refl _, Res.le_refl _, trivial⟩
  · have hi : i < l.length := by omega
    obtain ⟨hlab, hb0⟩ := bfs_start p2 hi (by simpa using hb)
    refine LoopX.rule hT (C := []) (ι := Nat × List Nat × List Bool) (fun (m, g, sn) => m ≤ g.length ∧ sn.length = l.length ∧ bfs l.length (joinB r l) (labM r l) i (fun k => sn.getD k false) g ∧ ∀ s, s < m → ∀ k, k < l.length → joinB r l k (g.getD s 0) = true → sn.getD k false = true)
      (fun (m, g, sn) => mkSt [(1, .d (mrks l)), (2, .ptr 2 0), (5, .buf 5), (6, .buf 6), (8, .buf 8), (9, .d (.int .i64 m)), (14, .d (mrks l)), (15, .d (.int .i64 l.length)), (16, .d (.int .i64 i))]
        [(2, .cells 29 ((ruF r).map .d)), (5, grsB (grI r l i)), (6, seqB 4 1 bF false sn), (8, seqB 3 1 iF 0 (toI g))]) (fun (m, _, _) => l.length - m) (0, [i], sn.set i true) ⟨by simp, by simp [hsl], hb0, fun s hs => by omega⟩ ?_ ?_
    · exact Entails.mk' [(2, 2), (5, 5), (6, 6), (8, 27)] rfl rfl ⟨SV.le_refl _, SV.le_refl _, SV.le_refl _, SV.le_refl _, SV.le_refl _, SV.le_refl _, SV.le_refl _, SV.le_refl _, SV.le_refl _, trivial⟩ ⟨Res.le_refl _, Res.le_refl _, Res.le_upd (fun _ => true) (fun _ => rfl), Res.le_lit rfl rfl, trivial⟩
    rintro ⟨m, g, sn⟩ ⟨m1, m2, m3, m4⟩
    have m1 : m ≤ g.length := m1
    have hgl2 := bfs_len m3
    have htl := toI_len g
    have e2 : (m : Int).toNat = m := Int.toNat_natCast m
    by_cases hm : m < g.length
    · have hK : (toI g).getD m 0 = ((g.getD m 0 : Nat) : Int) := toI_get hm
      have hK2 : (toI g).getD (m : Int).toNat 0 = ((g.getD m 0 : Nat) : Int) := hK
      have hgm : g.getD m 0 ∈ g := getD_mem hm
      have hgx := (m3.ins _ hgm).1
      have hlx := hl _ hgx
      conv => whnf
      repeat' (first
        | (refine br_intro (fun hb => ?_) (fun hb => ?_) <;> (try simp only [decide_eq_true_eq, decide_eq_false_iff_not, Bool.not_eq_true', Bool.not_eq_false', Bool.and_eq_true, Bool.or_eq_true, beq_iff_eq, not_and, Int.not_le, Int.not_lt, Int.toNat_natCast, beq_eq_false_iff_ne, ne_eq, eq_self, not_true_eq_false, not_false_eq_true] at hb) <;> (conv => whnf))
        | (refine RegX.rule (id := 15) hT rfl [] [(0, []), (1, [0]), (2, []), (3, []), (4, []), (5, []), (6, []), (7, [6]), (8, []), (9, []), (10, []), (11, [6, 7, 8, 9, 10]), (12, [6, 7, 8, 9, 10, 11]), (13, [6, 7, 8, 9, 10, 11, 12]), (14, [6, 7, 8, 9, 10, 11]), (15, [6, 7, 8, 9, 10, 11]), (16, [6, 7, 8, 9, 10]), (17, [6, 7, 8, 9, 10]), (18, [6, 7, 8, 9, 10]), (19, []), (20, []), (21, []), (22, []), (23, [22]), (24, []), (25, []), (26, [22, 23, 24, 25]), (27, [22, 23, 24, 25, 26]), (28, [22, 23, 24, 25, 26, 27]), (29, [22, 23, 24, 25, 26]), (30, [22, 23, 24, 25, 26]), (31, [22, 23, 24, 25]), (32, [22, 23, 24, 25]), (34, [22, 23, 24, 25, 26, 27, 28, 29, 30, 31, 32]), (35, [22, 23, 24, 25, 26, 27, 28, 29, 30, 31, 32]), (36, [22, 23, 24, 25, 26, 27, 28, 29, 30, 31, 32, 34, 35]), (37, [22, 23, 24, 25, 26, 27, 28, 29, 30, 31, 32, 34, 35]), (38, [22, 23, 24, 25, 26, 27, 28, 29, 30, 31, 32]), (33, [34, 35, 36, 37, 38]), (39, []), (40, [])] (by decide +kernel) ?_; conv => whnf)
        | omega
        | (refine And.intro ?_ ?_; ((try dsimp only); first | omega | (refine ⟨by omega, by omega, Int.le_trans (Int.mul_le_mul_of_nonneg_right (Int.ofNat_le.2 (Nat.le_of_ble_eq_true (rfl : Nat.ble _ 1024 = true))) (by omega)) (by omega), by omega⟩) | (refine Nat.le_trans (Nat.mul_le_mul_left _ (Nat.le_of_ble_eq_true (rfl : Nat.ble _ 1024 = true))) ?_; omega) | (unfold inI64; omega) | (constructor <;> omega) | (simp only [inI64, List.length_cons, List.length_append, List.length_nil, List.length_set] at *; omega) | decide | (unfold inI64; decide)); conv => whnf)
        | omega | decide | assumption)
      refine LoopX.rule hT (C := []) (ι := Nat × List Nat × List Bool) (fun (k, h, sn) => k ≤ l.length ∧ sn.length = l.length ∧ m < h.length ∧ h.getD m 0 = g.getD m 0 ∧ bfs l.length (joinB r l) (labM r l) i (fun k => sn.getD k false) h ∧ (∀ s, s < m → ∀ k, k < l.length → joinB r l k (h.getD s 0) = true → sn.getD k false = true) ∧ ∀ k', k' < k → joinB r l k' (g.getD m 0) = true → sn.getD k' false = true)
        (fun (k, h, sn) => mkSt [(1, .d (mrks l)), (2, .ptr 2 0), (5, .buf 5), (6, .buf 6), (8, .buf 8), (9, .d (.int .i64 m)), (14, .d (mrks l)), (15, .d (.int .i64 l.length)), (16, .d (.int .i64 i)), (34, .d (mrks l)), (35, .d (.int .i64 l.length)), (36, .d (.int .i64 k))]
          [(2, .cells 29 ((ruF r).map .d)), (5, grsB (grI r l i)), (6, seqB 4 1 bF false sn), (8, seqB 3 1 iF 0 (toI h))]) (fun (k, _, _) => l.length - k) (0, g, sn) ⟨by simp, m2, hm, rfl, m3, m4, fun k' hk' => by omega⟩ ?_ ?_
      · exact Entails.mk' [(2, 2), (5, 5), (6, 6), (8, 8)] rfl rfl ⟨SV.le_refl _, SV.le_refl _, SV.le_refl _, SV.le_refl _, SV.le_refl _, SV.le_refl _, SV.le_refl _, SV.le_refl _, SV.le_refl _, SV.le_refl _, SV.le_refl _, SV.le_refl _, trivial⟩ ⟨Res.le_refl _, Res.le_refl _, Res.le_refl _, Res.le_refl _, trivial⟩
      rintro ⟨k, h, sn⟩ ⟨k1, k2, k3, k4, k5, k6, k7⟩
      have k1 : k ≤ l.length := k1
      have k2 : sn.length = l.length := k2
      have k3 : m < h.length := k3
      have hh2 := bfs_len k5
      have htl2 := toI_len h
      have e3 : (k : Int).toNat = k := Int.toNat_natCast k
      have hH : (toI h).getD m 0 = ((g.getD m 0 : Nat) : Int) := by rw [toI_get k3, k4]
      have hH2 : (toI h).getD (m : Int).toNat 0 = ((g.getD m 0 : Nat) : Int) := hH
      have hHt : ((toI h).getD m 0).toNat = g.getD m 0 := by omega
      have h149 := fun (hk : k < l.length) => z149 (l.getD k mk0) (l.getD ((toI h).getD m 0).toNat mk0) (hl k hk) (by rw [hHt]; exact hlx)
      have hJ : joinB r l k (g.getD m 0) = ((l.getD k mk0).pan == (l.getD ((toI h).getD m 0).toNat mk0).pan && decide (distM (l.getD k mk0) (l.getD ((toI h).getD m 0).toNat mk0) ≤ r.join * r.join)) := by rw [hHt]; rfl
      conv => whnf
      repeat' (first
        | (refine CallX.exact (h149 (by omega)) rfl rfl ?_; rotate_right; conv => whnf)
        | (refine br_intro (fun hb => ?_) (fun hb => ?_) <;> (try simp only [decide_eq_true_eq, decide_eq_false_iff_not, Bool.not_eq_true', Bool.not_eq_false', Bool.and_eq_true, Bool.or_eq_true, beq_iff_eq, not_and, Int.not_le, Int.not_lt, Int.toNat_natCast, beq_eq_false_iff_ne, ne_eq, eq_self, not_true_eq_false, not_false_eq_true] at hb) <;> (conv => whnf))
        | (refine RegX.rule (id := 15) hT rfl [] [(0, []), (1, [0]), (2, []), (3, []), (4, []), (5, []), (6, []), (7, [6]), (8, []), (9, []), (10, []), (11, [6, 7, 8, 9, 10]), (12, [6, 7, 8, 9, 10, 11]), (13, [6, 7, 8, 9, 10, 11, 12]), (14, [6, 7, 8, 9, 10, 11]), (15, [6, 7, 8, 9, 10, 11]), (16, [6, 7, 8, 9, 10]), (17, [6, 7, 8, 9, 10]), (18, [6, 7, 8, 9, 10]), (19, []), (20, []), (21, []), (22, []), (23, [22]), (24, []), (25, []), (26, [22, 23, 24, 25]), (27, [22, 23, 24, 25, 26]), (28, [22, 23, 24, 25, 26, 27]), (29, [22, 23, 24, 25, 26]), (30, [22, 23, 24, 25, 26]), (31, [22, 23, 24, 25]), (32, [22, 23, 24, 25]), (34, [22, 23, 24, 25, 26, 27, 28, 29, 30, 31, 32]), (35, [22, 23, 24, 25, 26, 27, 28, 29, 30, 31, 32]), (36, [22, 23, 24, 25, 26, 27, 28, 29, 30, 31, 32, 34, 35]), (37, [22, 23, 24, 25, 26, 27, 28, 29, 30, 31, 32, 34, 35]), (38, [22, 23, 24, 25, 26, 27, 28, 29, 30, 31, 32]), (33, [34, 35, 36, 37, 38]), (39, []), (40, [])] (by decide +kernel) ?_; conv => whnf)
        | omega
        | (refine And.intro ?_ ?_; ((try dsimp only); first | omega | (refine ⟨by omega, by omega, Int.le_trans (Int.mul_le_mul_of_nonneg_right (Int.ofNat_le.2 (Nat.le_of_ble_eq_true (rfl : Nat.ble _ 1024 = true))) (by omega)) (by omega), by omega⟩) | (refine Nat.le_trans (Nat.mul_le_mul_left _ (Nat.le_of_ble_eq_true (rfl : Nat.ble _ 1024 = true))) ?_; omega) | (unfold inI64; omega) | (constructor <;> omega) | (simp only [inI64, List.length_cons, List.length_append, List.length_nil, List.length_set] at *; omega) | decide | (unfold inI64; decide)); conv => whnf)
        | omega | decide | assumption)
      all_goals first
        | (have hu : sn.getD k false = false := by assumption
           have hjt : joinB r l k (g.getD m 0) = true := by rw [hJ]; clear k6 k7 m4 k5 m3; grind
           have hset : ∀ y, (sn.set k true).getD y false = if y = k then true else sn.getD y false := fun y => setB_get (by omega)
           refine ⟨(k + 1, h ++ [k], sn.set k true), ⟨by omega, by simp [k2], by simp; omega, by rw [getD_app_lt k3]; exact k4, bfs_add k5 k2 (by rw [← k4]; exact getD_mem k3) (by omega) hjt hu, fun s hs k' hk' hj => ?_, fun k' hk' hj => ?_⟩, (show l.length - (k + 1) < l.length - k by omega), ?_⟩
           · rw [getD_app_lt (by omega)] at hj
             rw [hset]
             split
             · rfl
             · exact k6 s hs k' hk' hj
           · rw [hset]
             split
             · rfl
             · exact k7 k' (by omega) hj
           · show Entails _ (mkSt _ [(2, .cells 29 ((ruF r).map .d)), (5, grsB (grI r l i)), (6, seqB 4 1 bF false (sn.set k true)), (8, seqB 3 1 iF 0 (toI (h ++ [k])))])
             rw [toI_snocC]
             exact Entails.mk' [(2, 2), (5, 5), (6, 6), (8, 86)] rfl rfl ⟨SV.le_refl _, SV.le_refl _, SV.le_refl _, SV.le_refl _, SV.le_refl _, SV.le_refl _, SV.le_refl _, SV.le_refl _, SV.le_refl _, SV.le_refl _, SV.le_refl _, SV.le_refl _, trivial⟩ ⟨Res.le_refl _, Res.le_refl _, Res.le_upd (fun _ => true) (fun _ => rfl), Res.le_snocF (x := (k : Int)) rfl, trivial⟩)
        | (have hk : k < l.length := by omega
           refine ⟨(k + 1, h, sn), ⟨by omega, k2, k3, k4, k5, k6, fun k' hk' hj => ?_⟩, (show l.length - (k + 1) < l.length - k by omega), Entails.mk' [(2, 2), (5, 5), (6, 6), (8, 8)] rfl rfl ⟨SV.le_refl _, SV.le_refl _, SV.le_refl _, SV.le_refl _, SV.le_refl _, SV.le_refl _, SV.le_refl _, SV.le_refl _, SV.le_refl _, SV.le_refl _, SV.le_refl _, SV.le_refl _, trivial⟩ ⟨Res.le_refl _, Res.le_refl _, Res.le_refl _, Res.le_refl _, trivial⟩⟩
           by_cases e : k' = k
           · subst e
             rw [hJ] at hj
             clear k6 k7 m4 k5 m3
             grind
           · exact k7 k' (by omega) hj)
        | (have hk : k = l.length := by omega
           refine ⟨(m + 1, h, sn), ⟨by omega, k2, k5, fun s hs k' hk' hj => ?_⟩, (show l.length - (m + 1) < l.length - m by omega), Entails.mk' [(2, 2), (5, 5), (6, 6), (8, 8)] rfl rfl ⟨SV.le_refl _, SV.le_refl _, SV.le_refl _, SV.le_refl _, SV.le_refl _, SV.le_refl _, SV.le_refl _, SV.le_refl _, SV.le_refl _, trivial⟩ ⟨Res.le_refl _, Res.le_refl _, Res.le_refl _, Res.le_refl _, trivial⟩⟩
           by_cases e : s = m
           · subst e
             rw [k4] at hj
             exact k7 k' (by omega) hj
           · exact k6 s (by omega) k' hk' hj)
    · have hall := m3.all (labM_lab r l) (joinB_symm r l) (fun x hx k hk hj => by
        obtain ⟨s, hs, rfl⟩ := List.mem_iff_getElem.1 hx
        refine m4 s (by omega) k hk ?_
        rw [List.getD_eq_getElem?_getD, List.getElem?_eq_getElem hs]; exact hj)
      conv => whnf
      repeat' (first
        | (refine br_intro (fun hb => ?_) (fun hb => ?_) <;> (try simp only [decide_eq_true_eq, decide_eq_false_iff_not, Bool.not_eq_true', Bool.not_eq_false', Bool.and_eq_true, Bool.or_eq_true, beq_iff_eq, not_and, Int.not_le, Int.not_lt, Int.toNat_natCast, beq_eq_false_iff_ne, ne_eq, eq_self, not_true_eq_false, not_false_eq_true] at hb) <;> (conv => whnf))
        | (refine RegX.rule (id := 15) hT rfl [] [(0, []), (1, [0]), (2, []), (3, []), (4, []), (5, []), (6, []), (7, [6]), (8, []), (9, []), (10, []), (11, [6, 7, 8, 9, 10]), (12, [6, 7, 8, 9, 10, 11]), (13, [6, 7, 8, 9, 10, 11, 12]), (14, [6, 7, 8, 9, 10, 11]), (15, [6, 7, 8, 9, 10, 11]), (16, [6, 7, 8, 9, 10]), (17, [6, 7, 8, 9, 10]), (18, [6, 7, 8, 9, 10]), (19, []), (20, []), (21, []), (22, []), (23, [22]), (24, []), (25, []), (26, [22, 23, 24, 25]), (27, [22, 23, 24, 25, 26]), (28, [22, 23, 24, 25, 26, 27]), (29, [22, 23, 24, 25, 26]), (30, [22, 23, 24, 25, 26]), (31, [22, 23, 24, 25]), (32, [22, 23, 24, 25]), (34, [22, 23, 24, 25, 26, 27, 28, 29, 30, 31, 32]), (35, [22, 23, 24, 25, 26, 27, 28, 29, 30, 31, 32]), (36, [22, 23, 24, 25, 26, 27, 28, 29, 30, 31, 32, 34, 35]), (37, [22, 23, 24, 25, 26, 27, 28, 29, 30, 31, 32, 34, 35]), (38, [22, 23, 24, 25, 26, 27, 28, 29, 30, 31, 32]), (33, [34, 35, 36, 37, 38]), (39, []), (40, [])] (by decide +kernel) ?_; conv => whnf)
        | omega
        | (refine And.intro ?_ ?_; ((try dsimp only); first | omega | (refine ⟨by omega, by omega, Int.le_trans (Int.mul_le_mul_of_nonneg_right (Int.ofNat_le.2 (Nat.le_of_ble_eq_true (rfl : Nat.ble _ 1024 = true))) (by omega)) (by omega), by omega⟩) | (refine Nat.le_trans (Nat.mul_le_mul_left _ (Nat.le_of_ble_eq_true (rfl : Nat.ble _ 1024 = true))) ?_; omega) | (unfold inI64; omega) | (constructor <;> omega) | (simp only [inI64, List.length_cons, List.length_append, List.length_nil, List.length_set] at *; omega) | decide | (unfold inI64; decide)); conv => whnf)
        | omega | decide | assumption)
      refine CallX.of (z185 (toI g) (by omega)) [(1000001, 8)] rfl ⟨SV.le_refl _, trivial⟩ ⟨Res.le_refl _, trivial⟩ rfl rfl ?_
      rintro x rout ⟨rfl, c, hp, hs, rfl⟩
      refine ⟨rfl, ?_⟩
      have hc : c = grpI r l i := sort_grp m3.nodup hall (fun x hx => (m3.ins x hx).1) hp hs
      subst hc
      conv => whnf
      repeat' (first
        | (refine br_intro (fun hb => ?_) (fun hb => ?_) <;> (try simp only [decide_eq_true_eq, decide_eq_false_iff_not, Bool.not_eq_true', Bool.not_eq_false', Bool.and_eq_true, Bool.or_eq_true, beq_iff_eq, not_and, Int.not_le, Int.not_lt, Int.toNat_natCast, beq_eq_false_iff_ne, ne_eq, eq_self, not_true_eq_false, not_false_eq_true] at hb) <;> (conv => whnf))
        | (refine RegX.rule (id := 15) hT rfl [] [(0, []), (1, [0]), (2, []), (3, []), (4, []), (5, []), (6, []), (7, [6]), (8, []), (9, []), (10, []), (11, [6, 7, 8, 9, 10]), (12, [6, 7, 8, 9, 10, 11]), (13, [6, 7, 8, 9, 10, 11, 12]), (14, [6, 7, 8, 9, 10, 11]), (15, [6, 7, 8, 9, 10, 11]), (16, [6, 7, 8, 9, 10]), (17, [6, 7, 8, 9, 10]), (18, [6, 7, 8, 9, 10]), (19, []), (20, []), (21, []), (22, []), (23, [22]), (24, []), (25, []), (26, [22, 23, 24, 25]), (27, [22, 23, 24, 25, 26]), (28, [22, 23, 24, 25, 26, 27]), (29, [22, 23, 24, 25, 26]), (30, [22, 23, 24, 25, 26]), (31, [22, 23, 24, 25]), (32, [22, 23, 24, 25]), (34, [22, 23, 24, 25, 26, 27, 28, 29, 30, 31, 32]), (35, [22, 23, 24, 25, 26, 27, 28, 29, 30, 31, 32]), (36, [22, 23, 24, 25, 26, 27, 28, 29, 30, 31, 32, 34, 35]), (37, [22, 23, 24, 25, 26, 27, 28, 29, 30, 31, 32, 34, 35]), (38, [22, 23, 24, 25, 26, 27, 28, 29, 30, 31, 32]), (33, [34, 35, 36, 37, 38]), (39, []), (40, [])] (by decide +kernel) ?_; conv => whnf)
        | omega
        | (refine And.intro ?_ ?_; ((try dsimp only); first | omega | (refine ⟨by omega, by omega, Int.le_trans (Int.mul_le_mul_of_nonneg_right (Int.ofNat_le.2 (Nat.le_of_ble_eq_true (rfl : Nat.ble _ 1024 = true))) (by omega)) (by omega), by omega⟩) | (refine Nat.le_trans (Nat.mul_le_mul_left _ (Nat.le_of_ble_eq_true (rfl : Nat.ble _ 1024 = true))) ?_; omega) | (unfold inI64; omega) | (constructor <;> omega) | (simp only [inI64, List.length_cons, List.length_append, List.length_nil, List.length_set] at *; omega) | decide | (unfold inI64; decide)); conv => whnf)
        | omega | decide | assumption)
      refine ⟨(i + 1, sn), ⟨by omega, m2, m3.next hall⟩, (show l.length - (i + 1) < l.length - i by omega), ?_⟩
      show Entails _ (mkSt _ [(2, .cells 29 ((ruF r).map .d)), (5, grsB (grI r l (i + 1))), (6, seqB 4 1 bF false sn)])
      rw [grI_some hi hlab]
      exact Entails.mk' [(2, 2), (5, 93), (6, 6)] rfl rfl ⟨SV.le_refl _, SV.le_refl _, SV.le_refl _, SV.le_refl _, SV.le_refl _, SV.le_refl _, SV.le_refl _, trivial⟩ ⟨Res.le_refl _, Res.le_snocF (x := grpI r l i) rfl, Res.le_refl _, trivial⟩
  · obtain rfl : i = l.length := by omega
    refine .freeze _ 5 22 1 _ _ rfl (.weak _ ?_)
    conv => whnf
    exact ⟨_, [], SV.le_refl _, ⟨rfl, rfl⟩, trivial⟩
end Go.Proofs.YtnkdlkgannnfhaaGreat
set_option maxRecDepth 20000
namespace Go.Proofs.YtnkdlkgannnfhaaGreat
open Go Go.Eng
theorem SV.le_take {α : Type} {f : α → List DV} {d : α} {l : List α} {k m : Nat} {get : Nat → List DV} (hg : ∀ i, i < l.length → get i = rowF f d l i) (hm : m ≤ l.length) :
    SV.le (.d (.ro k m fun i => get (0 + i))) (.d (seqD k f d (l.take m))) :=
  SV.le_ro (by rw [List.length_take]; omega) (fun i hi => by
    rw [Nat.zero_add, hg i (by omega)]
    simp only [rowF]
    rw [List.getD_eq_getElem?_getD, List.getD_eq_getElem?_getD, List.getElem?_take_of_lt hi])
theorem allK_take {α : Type} {K : α → Prop} {l : List α} {k m : Nat} (h : allK K k l) : allK K k (l.take m) :=
  ⟨by rw [List.length_take]; have := h.1; omega, fun x hx => h.2 x (List.mem_of_mem_take hx)⟩
def pnG (x : Pnl) : Prop := x.key.length ≤ 8
def pnLit (u1 u2 u3 : Int) : List Pnl := [⟨[100, 111, 111, 114], 1000, 800, u1⟩, ⟨[104, 111, 111, 100], u2, 900, u3⟩, ⟨[114, 111, 111, 102], 300, 300, 4000⟩]
theorem pnLit_ok (u1 u2 u3 : Int) : allK pnG 3 (pnLit u1 u2 u3) := ⟨Nat.le_refl _, by intro x hx; simp [pnLit] at hx; rcases hx with rfl | rfl | rfl <;> simp [pnG]⟩
theorem pnLit_rows (u1 u2 u3 : Int) : ∀ i, i < (pnLit u1 u2 u3).length → [[DV.str [100, 111, 111, 114], .int .i64 1000, .int .i64 800, .int .i64 u1], [.str [104, 111, 111, 100], .int .i64 u2, .int .i64 900, .int .i64 u3], [.str [114, 111, 111, 102], .int .i64 300, .int .i64 300, .int .i64 4000]].getD i [] = rowF pnF pn0 (pnLit u1 u2 u3) i := rows_lit rfl
theorem pick3 {u : Int} (h : u ∈ ([1, 2, 3, 3] : List Int)) : 0 ≤ u ∧ u ≤ 3 := by
  simp only [List.mem_cons, List.not_mem_nil, or_false] at h; omega
-- Panels
theorem s95 (n : Nat) (L : Nat → Int) (hL : Rok n L) (a : Int) (h0 : 0 ≤ a) (ha : a ≤ 2^38) :
    FSpec Tryz.prog 4 [.ptr 1000000 0] [(1000000, strm n L a)] (fun y r => (∃ l, allK pnG 3 l ∧ y = .d (pnls l)) ∧ Moved n L a 20 r) := by
  refine spec_of hT (C := [17]) Tryz.func4 rfl Tryz.call4 rfl rfl rfl ?_
  conv => whnf
  repeat' (first
    | (refine CallX.of (s33 n L hL _ ?_ ?_ [0, 3000, 9000] ?_ ?_) [(1000000, 1000000)] rfl ⟨SV.le_refl _, SV.le_lit rfl rfl, trivial⟩ ⟨Res.le_refl _, trivial⟩ rfl rfl ?_; rotate_right; rintro x rout ⟨⟨u1, hu1, rfl⟩, ⟨c, c1, c2, rfl⟩⟩; refine ⟨rfl, ?_⟩; conv => whnf)
    | (refine CallX.of (s33 n L hL _ ?_ ?_ [50, 1200] ?_ ?_) [(1000000, 1000000)] rfl ⟨SV.le_refl _, SV.le_lit rfl rfl, trivial⟩ ⟨Res.le_refl _, trivial⟩ rfl rfl ?_; rotate_right; rintro x rout ⟨⟨u2, hu2, rfl⟩, ⟨c, c1, c2, rfl⟩⟩; refine ⟨rfl, ?_⟩; conv => whnf)
    | (refine CallX.of (s33 n L hL _ ?_ ?_ [5000, 1000000] ?_ ?_) [(1000000, 1000000)] rfl ⟨SV.le_refl _, SV.le_lit rfl rfl, trivial⟩ ⟨Res.le_refl _, trivial⟩ rfl rfl ?_; rotate_right; rintro x rout ⟨⟨u3, hu3, rfl⟩, ⟨c, c1, c2, rfl⟩⟩; refine ⟨rfl, ?_⟩; conv => whnf)
    | (refine CallX.of (s84 n L hL _ ?_ ?_ _ ?_) [(1000000, 1000000)] rfl ⟨SV.le_refl _, SV.le_refl _, trivial⟩ ⟨Res.le_refl _, trivial⟩ rfl rfl ?_; rotate_right; rintro x rout ⟨⟨f, rfl⟩, ⟨c, c1, c2, rfl⟩⟩; refine ⟨rfl, ?_⟩; conv => whnf)
    | (refine CallX.of (s86 n L hL _ ?_ ?_ _ ?_) [(1000000, 1000000)] rfl ⟨SV.le_refl _, SV.le_refl _, trivial⟩ ⟨Res.le_refl _, trivial⟩ rfl rfl ?_; rotate_right; rintro x rout ⟨⟨j, hj1, hj2, hj3, rfl⟩, ⟨c, c1, c2, rfl⟩⟩; refine ⟨rfl, ?_⟩; conv => whnf)
    | (refine CallX.of (s15 n L hL _ ?_ ?_ [_, [], [100, 111, 111, 114]] (by simp) (by simp)) [(1000000, 1000000)] rfl ⟨SV.le_refl _, SV.le_lit rfl rfl, trivial⟩ ⟨Res.le_refl _, trivial⟩ rfl rfl ?_; rotate_right; rintro x rout ⟨⟨u4, hu4, rfl⟩, ⟨c, c1, c2, rfl⟩⟩; refine ⟨rfl, ?_⟩; conv => whnf)
    | (refine CallX.of (s104 n L hL _ ?_ ?_ 1 5000 ?_ ?_ ?_) [(1000000, 1000000)] rfl ⟨SV.le_refl _, SV.le_refl _, SV.le_refl _, trivial⟩ ⟨Res.le_refl _, trivial⟩ rfl rfl ?_; rotate_right; rintro x rout ⟨⟨u5, hk1, hk2, rfl⟩, ⟨c, c1, c2, rfl⟩⟩; refine ⟨rfl, ?_⟩; conv => whnf)
    | (refine CallX.of (s104 n L hL _ ?_ ?_ 0 1000000 ?_ ?_ ?_) [(1000000, 1000000)] rfl ⟨SV.le_refl _, SV.le_refl _, SV.le_refl _, trivial⟩ ⟨Res.le_refl _, trivial⟩ rfl rfl ?_; rotate_right; rintro x rout ⟨⟨u6, hk3, hk4, rfl⟩, ⟨c, c1, c2, rfl⟩⟩; refine ⟨rfl, ?_⟩; conv => whnf)
    | (refine CallX.of (s33 n L hL _ ?_ ?_ [1, 2, 3, 3] ?_ ?_) [(1000000, 1000000)] rfl ⟨SV.le_refl _, SV.le_lit rfl rfl, trivial⟩ ⟨Res.le_refl _, trivial⟩ rfl rfl ?_; rotate_right; rintro x rout ⟨⟨u7, hu7, rfl⟩, ⟨c, c1, c2, rfl⟩⟩; have hw7 := pick3 hu7; refine ⟨rfl, ?_⟩; conv => whnf)
    | (refine SliceX.freeze 41 4 _ _ rfl ?_; conv => whnf)
    | (refine br_intro (fun hb => ?_) (fun hb => ?_) <;> (try simp only [decide_eq_true_eq, decide_eq_false_iff_not, Bool.not_eq_true', Bool.not_eq_false', Bool.and_eq_true, Bool.or_eq_true, beq_iff_eq, not_and, Int.not_le, Int.not_lt, Int.toNat_natCast, beq_eq_false_iff_ne, ne_eq, eq_self, not_true_eq_false, not_false_eq_true] at hb) <;> (conv => whnf))
    | omega
    | (refine And.intro ?_ ?_; ((try dsimp only); first | omega | (refine ⟨by omega, by omega, Int.le_trans (Int.mul_le_mul_of_nonneg_right (Int.ofNat_le.2 (Nat.le_of_ble_eq_true (rfl : Nat.ble _ 1024 = true))) (by omega)) (by omega), by omega⟩) | (refine Nat.le_trans (Nat.mul_le_mul_left _ (Nat.le_of_ble_eq_true (rfl : Nat.ble _ 1024 = true))) ?_; omega) | (unfold inI64; omega) | (constructor <;> omega) | (simp only [inI64, List.length_cons, List.length_append, List.length_nil, List.length_set] at *; omega) | decide | (unfold inI64; decide)); conv => whnf)
    | omega | decide | assumption)
  · have hj : j = 0 ∨ j = 1 ∨ j = 2 := by omega
    rcases hj with rfl | rfl | rfl
    all_goals
      conv => whnf
      repeat' (first
        | (refine CallX.of (s33 n L hL _ ?_ ?_ [0, 3000, 9000] ?_ ?_) [(1000000, 1000000)] rfl ⟨SV.le_refl _, SV.le_lit rfl rfl, trivial⟩ ⟨Res.le_refl _, trivial⟩ rfl rfl ?_; rotate_right; rintro x rout ⟨⟨u1, hu1, rfl⟩, ⟨c, c1, c2, rfl⟩⟩; refine ⟨rfl, ?_⟩; conv => whnf)
        | (refine CallX.of (s33 n L hL _ ?_ ?_ [50, 1200] ?_ ?_) [(1000000, 1000000)] rfl ⟨SV.le_refl _, SV.le_lit rfl rfl, trivial⟩ ⟨Res.le_refl _, trivial⟩ rfl rfl ?_; rotate_right; rintro x rout ⟨⟨u2, hu2, rfl⟩, ⟨c, c1, c2, rfl⟩⟩; refine ⟨rfl, ?_⟩; conv => whnf)
        | (refine CallX.of (s33 n L hL _ ?_ ?_ [5000, 1000000] ?_ ?_) [(1000000, 1000000)] rfl ⟨SV.le_refl _, SV.le_lit rfl rfl, trivial⟩ ⟨Res.le_refl _, trivial⟩ rfl rfl ?_; rotate_right; rintro x rout ⟨⟨u3, hu3, rfl⟩, ⟨c, c1, c2, rfl⟩⟩; refine ⟨rfl, ?_⟩; conv => whnf)
        | (refine CallX.of (s84 n L hL _ ?_ ?_ _ ?_) [(1000000, 1000000)] rfl ⟨SV.le_refl _, SV.le_refl _, trivial⟩ ⟨Res.le_refl _, trivial⟩ rfl rfl ?_; rotate_right; rintro x rout ⟨⟨f, rfl⟩, ⟨c, c1, c2, rfl⟩⟩; refine ⟨rfl, ?_⟩; conv => whnf)
        | (refine CallX.of (s86 n L hL _ ?_ ?_ _ ?_) [(1000000, 1000000)] rfl ⟨SV.le_refl _, SV.le_refl _, trivial⟩ ⟨Res.le_refl _, trivial⟩ rfl rfl ?_; rotate_right; rintro x rout ⟨⟨j, hj1, hj2, hj3, rfl⟩, ⟨c, c1, c2, rfl⟩⟩; refine ⟨rfl, ?_⟩; conv => whnf)
        | (refine CallX.of (s15 n L hL _ ?_ ?_ [_, [], [100, 111, 111, 114]] (by simp) (by simp)) [(1000000, 1000000)] rfl ⟨SV.le_refl _, SV.le_lit rfl rfl, trivial⟩ ⟨Res.le_refl _, trivial⟩ rfl rfl ?_; rotate_right; rintro x rout ⟨⟨u4, hu4, rfl⟩, ⟨c, c1, c2, rfl⟩⟩; refine ⟨rfl, ?_⟩; conv => whnf)
        | (refine CallX.of (s104 n L hL _ ?_ ?_ 1 5000 ?_ ?_ ?_) [(1000000, 1000000)] rfl ⟨SV.le_refl _, SV.le_refl _, SV.le_refl _, trivial⟩ ⟨Res.le_refl _, trivial⟩ rfl rfl ?_; rotate_right; rintro x rout ⟨⟨u5, hk1, hk2, rfl⟩, ⟨c, c1, c2, rfl⟩⟩; refine ⟨rfl, ?_⟩; conv => whnf)
        | (refine CallX.of (s104 n L hL _ ?_ ?_ 0 1000000 ?_ ?_ ?_) [(1000000, 1000000)] rfl ⟨SV.le_refl _, SV.le_refl _, SV.le_refl _, trivial⟩ ⟨Res.le_refl _, trivial⟩ rfl rfl ?_; rotate_right; rintro x rout ⟨⟨u6, hk3, hk4, rfl⟩, ⟨c, c1, c2, rfl⟩⟩; refine ⟨rfl, ?_⟩; conv => whnf)
        | (refine CallX.of (s33 n L hL _ ?_ ?_ [1, 2, 3, 3] ?_ ?_) [(1000000, 1000000)] rfl ⟨SV.le_refl _, SV.le_lit rfl rfl, trivial⟩ ⟨Res.le_refl _, trivial⟩ rfl rfl ?_; rotate_right; rintro x rout ⟨⟨u7, hu7, rfl⟩, ⟨c, c1, c2, rfl⟩⟩; have hw7 := pick3 hu7; refine ⟨rfl, ?_⟩; conv => whnf)
        | (refine SliceX.freeze 41 4 _ _ rfl ?_; conv => whnf)
        | (refine br_intro (fun hb => ?_) (fun hb => ?_) <;> (try simp only [decide_eq_true_eq, decide_eq_false_iff_not, Bool.not_eq_true', Bool.not_eq_false', Bool.and_eq_true, Bool.or_eq_true, beq_iff_eq, not_and, Int.not_le, Int.not_lt, Int.toNat_natCast, beq_eq_false_iff_ne, ne_eq, eq_self, not_true_eq_false, not_false_eq_true] at hb) <;> (conv => whnf))
        | omega
        | (refine And.intro ?_ ?_; ((try dsimp only); first | omega | (refine ⟨by omega, by omega, Int.le_trans (Int.mul_le_mul_of_nonneg_right (Int.ofNat_le.2 (Nat.le_of_ble_eq_true (rfl : Nat.ble _ 1024 = true))) (by omega)) (by omega), by omega⟩) | (refine Nat.le_trans (Nat.mul_le_mul_left _ (Nat.le_of_ble_eq_true (rfl : Nat.ble _ 1024 = true))) ?_; omega) | (unfold inI64; omega) | (constructor <;> omega) | (simp only [inI64, List.length_cons, List.length_append, List.length_nil, List.length_set] at *; omega) | decide | (unfold inI64; decide)); conv => whnf)
        | omega | decide | assumption)
      refine .weak _ ?_
      (conv => whnf)
      have hu : u4.length ≤ 8 := mem_len hu4 rfl
      refine ⟨_, [(1000000, strm n L _)], SV.le_take (f := pnF) (d := pn0) (rows_updG (rows_updG (rows_updG (pnLit_rows u1 u2 u3) (fun y : Pnl => (⟨u4, y.w, y.h, y.pr⟩ : Pnl)) (fun _ => rfl)) (fun y : Pnl => (⟨y.key, u5, y.h, y.pr⟩ : Pnl)) (fun _ => rfl)) (fun y : Pnl => (⟨y.key, y.w, y.h, u6⟩ : Pnl)) (fun _ => rfl)) (by simp [pnLit]; omega), ⟨⟨_, ?_, rfl⟩, _, by omega, by omega, rfl⟩, Res.le_refl _, trivial⟩
      exact allK_take (allK_upd (g := fun y : Pnl => (⟨y.key, y.w, y.h, u6⟩ : Pnl)) (allK_upd (g := fun y : Pnl => (⟨y.key, u5, y.h, y.pr⟩ : Pnl)) (allK_upd (g := fun y : Pnl => (⟨u4, y.w, y.h, y.pr⟩ : Pnl)) (pnLit_ok u1 u2 u3) (fun y hy => hu)) (fun y hy => hy)) (fun y hy => hy))
  · refine .weak _ ?_
    (conv => whnf)
    exact ⟨_, [(1000000, strm n L _)], SV.le_take (l := pnLit u1 u2 u3) (pnLit_rows u1 u2 u3) (by show (u7 - 0).toNat ≤ 3; omega), ⟨⟨_, allK_take (pnLit_ok u1 u2 u3), rfl⟩, _, by omega, by omega, rfl⟩, Res.le_refl _, trivial⟩
-- Rules
theorem s97 (n : Nat) (L : Nat → Int) (hL : Rok n L) (a : Int) (h0 : 0 ≤ a) (ha : a ≤ 2^38) :
    FSpec Tryz.prog 5 [.ptr 1000000 0] [(1000000, strm n L a)] (fun y r => (∃ z : Rul, y = .agg ((ruF z).map .d)) ∧ Moved n L a 20 r) := by
  refine spec_of hT (C := []) Tryz.func5 rfl Tryz.call5 rfl rfl rfl ?_
  conv => whnf
  repeat' (first
    | (refine CallX.of (s33 n L hL _ ?_ ?_ [0, 5, 13, 20, 20, 50] ?_ ?_) [(1000000, 1000000)] rfl ⟨SV.le_refl _, SV.le_lit rfl rfl, trivial⟩ ⟨Res.le_refl _, trivial⟩ rfl rfl ?_; rotate_right; rintro x rout ⟨⟨u1, hu1, rfl⟩, ⟨c, c1, c2, rfl⟩⟩; refine ⟨rfl, ?_⟩; conv => whnf)
    | (refine CallX.of (s33 n L hL _ ?_ ?_ [0, 1, 2, 2] ?_ ?_) [(1000000, 1000000)] rfl ⟨SV.le_refl _, SV.le_lit rfl rfl, trivial⟩ ⟨Res.le_refl _, trivial⟩ rfl rfl ?_; rotate_right; rintro x rout ⟨⟨u2, hu2, rfl⟩, ⟨c, c1, c2, rfl⟩⟩; refine ⟨rfl, ?_⟩; conv => whnf)
    | (refine CallX.of (s33 n L hL _ ?_ ?_ [0, 10, 30, 50, 100] ?_ ?_) [(1000000, 1000000)] rfl ⟨SV.le_refl _, SV.le_lit rfl rfl, trivial⟩ ⟨Res.le_refl _, trivial⟩ rfl rfl ?_; rotate_right; rintro x rout ⟨⟨u3, hu3, rfl⟩, ⟨c, c1, c2, rfl⟩⟩; refine ⟨rfl, ?_⟩; conv => whnf)
    | (refine CallX.of (s33 n L hL _ ?_ ?_ [0, 333, 500, 1000] ?_ ?_) [(1000000, 1000000)] rfl ⟨SV.le_refl _, SV.le_lit rfl rfl, trivial⟩ ⟨Res.le_refl _, trivial⟩ rfl rfl ?_; rotate_right; rintro x rout ⟨⟨u4, hu4, rfl⟩, ⟨c, c1, c2, rfl⟩⟩; refine ⟨rfl, ?_⟩; conv => whnf)
    | (refine CallX.of (s84 n L hL _ ?_ ?_ _ ?_) [(1000000, 1000000)] rfl ⟨SV.le_refl _, SV.le_refl _, trivial⟩ ⟨Res.le_refl _, trivial⟩ rfl rfl ?_; rotate_right; rintro x rout ⟨⟨f, rfl⟩, ⟨c, c1, c2, rfl⟩⟩; refine ⟨rfl, ?_⟩; conv => whnf)
    | (refine CallX.of (s104 n L hL _ ?_ ?_ _ _ ?_ ?_ ?_) [(1000000, 1000000)] rfl ⟨SV.le_refl _, SV.le_refl _, SV.le_refl _, trivial⟩ ⟨Res.le_refl _, trivial⟩ rfl rfl ?_; rotate_right; rintro x rout ⟨⟨u5, hk1, hk2, rfl⟩, ⟨c, c1, c2, rfl⟩⟩; refine ⟨rfl, ?_⟩; conv => whnf)
    | (refine br_intro (fun hb => ?_) (fun hb => ?_) <;> (try simp only [decide_eq_true_eq, decide_eq_false_iff_not, Bool.not_eq_true', Bool.not_eq_false', Bool.and_eq_true, Bool.or_eq_true, beq_iff_eq, not_and, Int.not_le, Int.not_lt, Int.toNat_natCast, beq_eq_false_iff_ne, ne_eq, eq_self, not_true_eq_false, not_false_eq_true] at hb) <;> (conv => whnf))
    | omega
    | (refine And.intro ?_ ?_; ((try dsimp only); first | omega | (refine ⟨by omega, by omega, Int.le_trans (Int.mul_le_mul_of_nonneg_right (Int.ofNat_le.2 (Nat.le_of_ble_eq_true (rfl : Nat.ble _ 1024 = true))) (by omega)) (by omega), by omega⟩) | (refine Nat.le_trans (Nat.mul_le_mul_left _ (Nat.le_of_ble_eq_true (rfl : Nat.ble _ 1024 = true))) ?_; omega) | (unfold inI64; omega) | (constructor <;> omega) | (simp only [inI64, List.length_cons, List.length_append, List.length_nil, List.length_set] at *; omega) | decide | (unfold inI64; decide)); conv => whnf)
    | omega | decide | assumption)
  all_goals
    refine .ret _ ?_
    conv => whnf
    exact ⟨[(1000000, strm n L _)], ⟨⟨⟨_, _, _, _⟩, rfl⟩, _, by omega, by omega, rfl⟩, Res.le_refl _, trivial⟩
def mkB (c : Int) (m : Mrk) : Prop := m.pan.length ≤ 8 ∧ (-c ≤ m.x ∧ m.x ≤ c) ∧ (-c ≤ m.y ∧ m.y ≤ c) ∧ (-c ≤ m.size ∧ m.size ≤ c)
abbrev mkG (m : Mrk) : Prop := mkB 1099511627776 m
theorem pk {l : List Int} {x : Int} (h : x ∈ l) (hl : (l.all fun y => decide (-1099511627776 ≤ y) && decide (y ≤ 1099511627776)) = true) : -1099511627776 ≤ x ∧ x ≤ 1099511627776 := by
  have := List.all_eq_true.1 hl x h
  simpa using this
-- Marks
theorem s96 (n : Nat) (L : Nat → Int) (hL : Rok n L) (a : Int) (h0 : 0 ≤ a) (ha : a ≤ 2^38) (m : Int) (hm1 : 0 ≤ m) (hm2 : m ≤ 12) :
    FSpec Tryz.prog 7 [.ptr 1000000 0, .d (.int .i64 m)] [(1000000, strm n L a)] (fun y r => (∃ l, allK mkG m.toNat l ∧ y = .d (mrks l)) ∧ Moved n L a 90 r) := by
  refine spec_of hT (C := []) Tryz.func7 rfl Tryz.call7 rfl rfl rfl ?_
  conv => whnf
  refine LoopX.rule hT (C := []) (ι := Int × List Mrk × Nat) (fun (b, l, k) => (a ≤ b ∧ b ≤ a + 6 * k ∧ (k : Int) ≤ m) ∧ allK mkG k l)
    (fun (b, l, k) => mkSt [(0, .ptr 1000000 0), (5, .buf 5), (7, .d (.int .i64 m)), (8, .d (.int .i64 k))] [(1000000, strm n L b), (5, seqB 43 5 mkF mk0 l)])
    (fun (_, _, k) => 12 - k) (a, [], 0) ⟨⟨by simp, by simp, by simpa using hm1⟩, ⟨by simp, by simp⟩⟩ ?_ ?_
  · exact (Entails.nil 5 5 43 5 (rowF mkF mk0 []) rfl rfl (by decide)).trans (by (refine Entails.mk' [(1000000, 1000000), (5, 5)] rfl rfl ?_ ?_ <;> repeat' (first | exact True.intro | exact SV.le_refl _ | exact Res.le_refl _ | exact SV.le_int (by omega) | exact SV.le_any _ | refine And.intro ?_ ?_)); done)
  rintro ⟨b, l, k⟩ ⟨⟨p1, p2, p3⟩, q1⟩
  have hl1 := q1.1
  conv => whnf
  repeat' (first
    | (refine CallX.of (s15 n L hL _ ?_ ?_ [[100, 111, 111, 114], [100, 111, 111, 114], [100, 111, 111, 114], [104, 111, 111, 100]] ?_ ?_) [(1000000, 1000000)] rfl ⟨SV.le_refl _, SV.le_lit rfl rfl, trivial⟩ ⟨Res.le_refl _, trivial⟩ rfl rfl ?_; rotate_right; rintro x rout ⟨⟨u1, hu1, rfl⟩, ⟨c, c1, c2, rfl⟩⟩; refine ⟨rfl, ?_⟩; conv => whnf)
    | (refine CallX.of (s33 n L hL _ ?_ ?_ [1, 1, 1, 2, 3] ?_ ?_) [(1000000, 1000000)] rfl ⟨SV.le_refl _, SV.le_lit rfl rfl, trivial⟩ ⟨Res.le_refl _, trivial⟩ rfl rfl ?_; rotate_right; rintro x rout ⟨⟨u2, hu2, rfl⟩, ⟨c, c1, c2, rfl⟩⟩; refine ⟨rfl, ?_⟩; conv => whnf)
    | (refine CallX.of (s33 n L hL _ ?_ ?_ [0, 10, 20, 30, 40, 40, 100, 140] ?_ ?_) [(1000000, 1000000)] rfl ⟨SV.le_refl _, SV.le_lit rfl rfl, trivial⟩ ⟨Res.le_refl _, trivial⟩ rfl rfl ?_; rotate_right; rintro x rout ⟨⟨u3, hu3, rfl⟩, ⟨c, c1, c2, rfl⟩⟩; refine ⟨rfl, ?_⟩; conv => whnf)
    | (refine CallX.of (s33 n L hL _ ?_ ?_ [0, 0, 10, 20] ?_ ?_) [(1000000, 1000000)] rfl ⟨SV.le_refl _, SV.le_lit rfl rfl, trivial⟩ ⟨Res.le_refl _, trivial⟩ rfl rfl ?_; rotate_right; rintro x rout ⟨⟨u4, hu4, rfl⟩, ⟨c, c1, c2, rfl⟩⟩; refine ⟨rfl, ?_⟩; conv => whnf)
    | (refine CallX.of (s33 n L hL _ ?_ ?_ [1, 5, 8, 10, 12, 50] ?_ ?_) [(1000000, 1000000)] rfl ⟨SV.le_refl _, SV.le_lit rfl rfl, trivial⟩ ⟨Res.le_refl _, trivial⟩ rfl rfl ?_; rotate_right; rintro x rout ⟨⟨u5, hu5, rfl⟩, ⟨c, c1, c2, rfl⟩⟩; refine ⟨rfl, ?_⟩; conv => whnf)
    | (refine br_intro (fun hb => ?_) (fun hb => ?_) <;> (try simp only [decide_eq_true_eq, decide_eq_false_iff_not, Bool.not_eq_true', Bool.not_eq_false', Bool.and_eq_true, Bool.or_eq_true, beq_iff_eq, not_and, Int.not_le, Int.not_lt, Int.toNat_natCast, beq_eq_false_iff_ne, ne_eq, eq_self, not_true_eq_false, not_false_eq_true] at hb) <;> (conv => whnf))
    | omega
    | (refine And.intro ?_ ?_; ((try dsimp only); first | omega | (refine ⟨by omega, by omega, Int.le_trans (Int.mul_le_mul_of_nonneg_right (Int.ofNat_le.2 (Nat.le_of_ble_eq_true (rfl : Nat.ble _ 1024 = true))) (by omega)) (by omega), by omega⟩) | (refine Nat.le_trans (Nat.mul_le_mul_left _ (Nat.le_of_ble_eq_true (rfl : Nat.ble _ 1024 = true))) ?_; omega) | (unfold inI64; omega) | (constructor <;> omega) | (simp only [inI64, List.length_cons, List.length_append, List.length_nil, List.length_set] at *; omega) | decide | (unfold inI64; decide)); conv => whnf)
    | omega | decide | assumption)
  · refine ⟨(_, _, k + 1), ?_, ?_, Entails.mk' [(1000000, 1000000), (5, 28)] rfl rfl ⟨SV.le_refl _, SV.le_refl _, SV.le_refl _, SV.le_refl _, trivial⟩ ⟨Res.le_refl _, Res.le_snocF (x := ⟨_, _, _, _, _⟩) rfl, trivial⟩⟩
    · exact ⟨⟨by omega, by omega, by omega⟩, allK_snoc q1 (Nat.le_refl _) ⟨mem_len hu1 rfl, pk hu3 rfl, pk hu4 rfl, pk hu5 rfl⟩⟩
    · show 12 - (k + 1) < 12 - k; omega
  refine CallX.of (s156 19 mrkCmp l (by omega) (fun p q _ _ => s157 p q)) [(1000001, 5)] rfl ⟨SV.le_refl _, SV.le_refl _, trivial⟩ ⟨Res.le_refl _, trivial⟩ rfl rfl ?_
  rintro x rout ⟨rfl, c, hc, rfl⟩
  refine ⟨rfl, ?_⟩
  conv => whnf
  repeat' (first
    | (refine br_intro (fun hb => ?_) (fun hb => ?_) <;> (try simp only [decide_eq_true_eq, decide_eq_false_iff_not, Bool.not_eq_true', Bool.not_eq_false', Bool.and_eq_true, Bool.or_eq_true, beq_iff_eq, not_and, Int.not_le, Int.not_lt, Int.toNat_natCast, beq_eq_false_iff_ne, ne_eq, eq_self, not_true_eq_false, not_false_eq_true] at hb) <;> (conv => whnf))
    | omega
    | (refine And.intro ?_ ?_; ((try dsimp only); first | omega | (refine ⟨by omega, by omega, Int.le_trans (Int.mul_le_mul_of_nonneg_right (Int.ofNat_le.2 (Nat.le_of_ble_eq_true (rfl : Nat.ble _ 1024 = true))) (by omega)) (by omega), by omega⟩) | (refine Nat.le_trans (Nat.mul_le_mul_left _ (Nat.le_of_ble_eq_true (rfl : Nat.ble _ 1024 = true))) ?_; omega) | (unfold inI64; omega) | (constructor <;> omega) | (simp only [inI64, List.length_cons, List.length_append, List.length_nil, List.length_set] at *; omega) | decide | (unfold inI64; decide)); conv => whnf)
    | omega | decide | assumption)
  refine CallX.of (s158 c (by have := hc.1; omega)) [(1000001, 5), (59, 100)] rfl ⟨SV.le_refl _, trivial⟩ ⟨Res.le_refl _, trivial⟩ rfl rfl ?_
  rintro x rout ⟨e, he, d, hd, rfl, rfl⟩
  have hsh : allK mkG m.toNat e := ⟨by have := hc.1; have := he.1; omega, fun p hp => q1.2 p (hc.2 p (he.2 p hp))⟩
  have hl2 := hsh.1
  rcases hd with rfl | rfl
  · refine ⟨rfl, ?_⟩
    conv => whnf
    repeat' (first
      | (refine CallX.of (s84 n L hL _ ?_ ?_ _ ?_) [(1000000, 1000000)] rfl ⟨SV.le_refl _, SV.le_refl _, trivial⟩ ⟨Res.le_refl _, trivial⟩ rfl rfl ?_; rotate_right; rintro x rout ⟨⟨f, rfl⟩, ⟨c, c1, c2, rfl⟩⟩; refine ⟨rfl, ?_⟩; conv => whnf)
      | (refine CallX.of (s86 n L hL _ ?_ ?_ _ ?_) [(1000000, 1000000)] rfl ⟨SV.le_refl _, SV.le_refl _, trivial⟩ ⟨Res.le_refl _, trivial⟩ rfl rfl ?_; rotate_right; rintro x rout ⟨⟨j, hj1, hj2, hj3, rfl⟩, ⟨c, c1, c2, rfl⟩⟩; refine ⟨rfl, ?_⟩; conv => whnf)
      | (refine CallX.of (s15 n L hL _ ?_ ?_ [[], [110, 111, 110, 101], [65]] ?_ ?_) [(1000000, 1000000)] rfl ⟨SV.le_refl _, SV.le_lit rfl rfl, trivial⟩ ⟨Res.le_refl _, trivial⟩ rfl rfl ?_; rotate_right; rintro x rout ⟨⟨u4, hu4, rfl⟩, ⟨c, c1, c2, rfl⟩⟩; have hw4 := mem_len hu4 rfl; refine ⟨rfl, ?_⟩; conv => whnf)
      | (refine CallX.of (s104 n L hL _ ?_ ?_ 1 4 ?_ ?_ ?_) [(1000000, 1000000)] rfl ⟨SV.le_refl _, SV.le_refl _, SV.le_refl _, trivial⟩ ⟨Res.le_refl _, trivial⟩ rfl rfl ?_; rotate_right; rintro x rout ⟨⟨u5, hk1, hk2, rfl⟩, ⟨c, c1, c2, rfl⟩⟩; refine ⟨rfl, ?_⟩; conv => whnf)
      | (refine CallX.of (s104 n L hL _ ?_ ?_ 0 5000 ?_ ?_ ?_) [(1000000, 1000000)] rfl ⟨SV.le_refl _, SV.le_refl _, SV.le_refl _, trivial⟩ ⟨Res.le_refl _, trivial⟩ rfl rfl ?_; rotate_right; rintro x rout ⟨⟨u6, hk3, hk4, rfl⟩, ⟨c, c1, c2, rfl⟩⟩; refine ⟨rfl, ?_⟩; conv => whnf)
      | (refine CallX.of (s33 n L hL _ ?_ ?_ [0, 799, 800, 900] ?_ ?_) [(1000000, 1000000)] rfl ⟨SV.le_refl _, SV.le_lit rfl rfl, trivial⟩ ⟨Res.le_refl _, trivial⟩ rfl rfl ?_; rotate_right; rintro x rout ⟨⟨u7, hu7, rfl⟩, ⟨c, c1, c2, rfl⟩⟩; refine ⟨rfl, ?_⟩; conv => whnf)
      | (refine CallX.of (s104 n L hL _ ?_ ?_ 1 2000 ?_ ?_ ?_) [(1000000, 1000000)] rfl ⟨SV.le_refl _, SV.le_refl _, SV.le_refl _, trivial⟩ ⟨Res.le_refl _, trivial⟩ rfl rfl ?_; rotate_right; rintro x rout ⟨⟨u8, hk5, hk6, rfl⟩, ⟨c, c1, c2, rfl⟩⟩; refine ⟨rfl, ?_⟩; conv => whnf)
      | (refine br_intro (fun hb => ?_) (fun hb => ?_) <;> (try simp only [decide_eq_true_eq, decide_eq_false_iff_not, Bool.not_eq_true', Bool.not_eq_false', Bool.and_eq_true, Bool.or_eq_true, beq_iff_eq, not_and, Int.not_le, Int.not_lt, Int.toNat_natCast, beq_eq_false_iff_ne, ne_eq, eq_self, not_true_eq_false, not_false_eq_true] at hb) <;> (conv => whnf))
      | omega
      | (refine And.intro ?_ ?_; ((try dsimp only); first | omega | (refine ⟨by omega, by omega, Int.le_trans (Int.mul_le_mul_of_nonneg_right (Int.ofNat_le.2 (Nat.le_of_ble_eq_true (rfl : Nat.ble _ 1024 = true))) (by omega)) (by omega), by omega⟩) | (refine Nat.le_trans (Nat.mul_le_mul_left _ (Nat.le_of_ble_eq_true (rfl : Nat.ble _ 1024 = true))) ?_; omega) | (unfold inI64; omega) | (constructor <;> omega) | (simp only [inI64, List.length_cons, List.length_append, List.length_nil, List.length_set] at *; omega) | decide | (unfold inI64; decide)); conv => whnf)
      | omega | decide | assumption)
    · first
        | refine .freeze _ 5 43 5 _ _ rfl (.weak _ ?_)
        | refine .freeze _ 100 43 5 _ _ rfl (.weak _ ?_)
      (conv => whnf)
      refine ⟨_, [(1000000, strm n L _)], SV.le_upd (fun p : Mrk => (⟨u4, p.kind, p.x, p.y, p.size⟩ : Mrk)) (fun _ => rfl), ⟨⟨_, ?_, rfl⟩, _, by omega, by omega, rfl⟩, Res.le_refl _, trivial⟩
      exact allK_upd (g := fun p : Mrk => (⟨u4, p.kind, p.x, p.y, p.size⟩ : Mrk)) hsh (fun y hy => ⟨hw4, hy.2⟩)
    · first
        | refine .freeze _ 5 43 5 _ _ rfl (.weak _ ?_)
        | refine .freeze _ 100 43 5 _ _ rfl (.weak _ ?_)
      (conv => whnf)
      refine ⟨_, [(1000000, strm n L _)], SV.le_upd (fun p : Mrk => (⟨p.pan, u5, p.x, p.y, p.size⟩ : Mrk)) (fun _ => rfl), ⟨⟨_, ?_, rfl⟩, _, by omega, by omega, rfl⟩, Res.le_refl _, trivial⟩
      exact allK_upd (g := fun p : Mrk => (⟨p.pan, u5, p.x, p.y, p.size⟩ : Mrk)) hsh (fun y hy => hy)
    · first
        | refine .freeze _ 5 43 5 _ _ rfl (.weak _ ?_)
        | refine .freeze _ 100 43 5 _ _ rfl (.weak _ ?_)
      (conv => whnf)
      refine ⟨_, [(1000000, strm n L _)], SV.le_upd2 (f := mkF) (d := mk0) (l := e) (fun p : Mrk => (⟨p.pan, p.kind, u6, p.y, p.size⟩ : Mrk)) (fun p : Mrk => (⟨p.pan, p.kind, p.x, u7, p.size⟩ : Mrk)) (fun _ => rfl) (fun _ => rfl), ⟨⟨_, ?_, rfl⟩, _, by omega, by omega, rfl⟩, Res.le_refl _, trivial⟩
      exact allK_upd (g := fun p : Mrk => (⟨p.pan, p.kind, p.x, u7, p.size⟩ : Mrk)) (allK_upd (g := fun p : Mrk => (⟨p.pan, p.kind, u6, p.y, p.size⟩ : Mrk)) hsh (fun y hy => ⟨hy.1, (show -1099511627776 ≤ u6 ∧ u6 ≤ 1099511627776 from by omega), hy.2.2⟩)) (fun y hy => ⟨hy.1, hy.2.1, pk hu7 rfl, hy.2.2.2⟩)
    · first
        | refine .freeze _ 5 43 5 _ _ rfl (.weak _ ?_)
        | refine .freeze _ 100 43 5 _ _ rfl (.weak _ ?_)
      (conv => whnf)
      refine ⟨_, [(1000000, strm n L _)], SV.le_upd (fun p : Mrk => (⟨p.pan, p.kind, p.x, p.y, u8⟩ : Mrk)) (fun _ => rfl), ⟨⟨_, ?_, rfl⟩, _, by omega, by omega, rfl⟩, Res.le_refl _, trivial⟩
      exact allK_upd (g := fun p : Mrk => (⟨p.pan, p.kind, p.x, p.y, u8⟩ : Mrk)) hsh (fun y hy => ⟨hy.1, hy.2.1, hy.2.2.1, (show -1099511627776 ≤ u8 ∧ u8 ≤ 1099511627776 from by omega)⟩)
    all_goals
      first
        | refine .freeze _ 5 43 5 _ _ rfl (.weak _ ?_)
        | refine .freeze _ 100 43 5 _ _ rfl (.weak _ ?_)
      (conv => whnf)
      exact ⟨_, [(1000000, strm n L _)], SV.le_refl _, ⟨⟨e, hsh, rfl⟩, _, by omega, by omega, rfl⟩, Res.le_refl _, trivial⟩
  · refine ⟨rfl, ?_⟩
    conv => whnf
    repeat' (first
      | (refine CallX.of (s84 n L hL _ ?_ ?_ _ ?_) [(1000000, 1000000)] rfl ⟨SV.le_refl _, SV.le_refl _, trivial⟩ ⟨Res.le_refl _, trivial⟩ rfl rfl ?_; rotate_right; rintro x rout ⟨⟨f, rfl⟩, ⟨c, c1, c2, rfl⟩⟩; refine ⟨rfl, ?_⟩; conv => whnf)
      | (refine CallX.of (s86 n L hL _ ?_ ?_ _ ?_) [(1000000, 1000000)] rfl ⟨SV.le_refl _, SV.le_refl _, trivial⟩ ⟨Res.le_refl _, trivial⟩ rfl rfl ?_; rotate_right; rintro x rout ⟨⟨j, hj1, hj2, hj3, rfl⟩, ⟨c, c1, c2, rfl⟩⟩; refine ⟨rfl, ?_⟩; conv => whnf)
      | (refine CallX.of (s15 n L hL _ ?_ ?_ [[], [110, 111, 110, 101], [65]] ?_ ?_) [(1000000, 1000000)] rfl ⟨SV.le_refl _, SV.le_lit rfl rfl, trivial⟩ ⟨Res.le_refl _, trivial⟩ rfl rfl ?_; rotate_right; rintro x rout ⟨⟨u4, hu4, rfl⟩, ⟨c, c1, c2, rfl⟩⟩; have hw4 := mem_len hu4 rfl; refine ⟨rfl, ?_⟩; conv => whnf)
      | (refine CallX.of (s104 n L hL _ ?_ ?_ 1 4 ?_ ?_ ?_) [(1000000, 1000000)] rfl ⟨SV.le_refl _, SV.le_refl _, SV.le_refl _, trivial⟩ ⟨Res.le_refl _, trivial⟩ rfl rfl ?_; rotate_right; rintro x rout ⟨⟨u5, hk1, hk2, rfl⟩, ⟨c, c1, c2, rfl⟩⟩; refine ⟨rfl, ?_⟩; conv => whnf)
      | (refine CallX.of (s104 n L hL _ ?_ ?_ 0 5000 ?_ ?_ ?_) [(1000000, 1000000)] rfl ⟨SV.le_refl _, SV.le_refl _, SV.le_refl _, trivial⟩ ⟨Res.le_refl _, trivial⟩ rfl rfl ?_; rotate_right; rintro x rout ⟨⟨u6, hk3, hk4, rfl⟩, ⟨c, c1, c2, rfl⟩⟩; refine ⟨rfl, ?_⟩; conv => whnf)
      | (refine CallX.of (s33 n L hL _ ?_ ?_ [0, 799, 800, 900] ?_ ?_) [(1000000, 1000000)] rfl ⟨SV.le_refl _, SV.le_lit rfl rfl, trivial⟩ ⟨Res.le_refl _, trivial⟩ rfl rfl ?_; rotate_right; rintro x rout ⟨⟨u7, hu7, rfl⟩, ⟨c, c1, c2, rfl⟩⟩; refine ⟨rfl, ?_⟩; conv => whnf)
      | (refine CallX.of (s104 n L hL _ ?_ ?_ 1 2000 ?_ ?_ ?_) [(1000000, 1000000)] rfl ⟨SV.le_refl _, SV.le_refl _, SV.le_refl _, trivial⟩ ⟨Res.le_refl _, trivial⟩ rfl rfl ?_; rotate_right; rintro x rout ⟨⟨u8, hk5, hk6, rfl⟩, ⟨c, c1, c2, rfl⟩⟩; refine ⟨rfl, ?_⟩; conv => whnf)
      | (refine br_intro (fun hb => ?_) (fun hb => ?_) <;> (try simp only [decide_eq_true_eq, decide_eq_false_iff_not, Bool.not_eq_true', Bool.not_eq_false', Bool.and_eq_true, Bool.or_eq_true, beq_iff_eq, not_and, Int.not_le, Int.not_lt, Int.toNat_natCast, beq_eq_false_iff_ne, ne_eq, eq_self, not_true_eq_false, not_false_eq_true] at hb) <;> (conv => whnf))
      | omega
      | (refine And.intro ?_ ?_; ((try dsimp only); first | omega | (refine ⟨by omega, by omega, Int.le_trans (Int.mul_le_mul_of_nonneg_right (Int.ofNat_le.2 (Nat.le_of_ble_eq_true (rfl : Nat.ble _ 1024 = true))) (by omega)) (by omega), by omega⟩) | (refine Nat.le_trans (Nat.mul_le_mul_left _ (Nat.le_of_ble_eq_true (rfl : Nat.ble _ 1024 = true))) ?_; omega) | (unfold inI64; omega) | (constructor <;> omega) | (simp only [inI64, List.length_cons, List.length_append, List.length_nil, List.length_set] at *; omega) | decide | (unfold inI64; decide)); conv => whnf)
      | omega | decide | assumption)
    · first
        | refine .freeze _ 5 43 5 _ _ rfl (.weak _ ?_)
        | refine .freeze _ 100 43 5 _ _ rfl (.weak _ ?_)
      (conv => whnf)
      refine ⟨_, [(1000000, strm n L _)], SV.le_upd (fun p : Mrk => (⟨u4, p.kind, p.x, p.y, p.size⟩ : Mrk)) (fun _ => rfl), ⟨⟨_, ?_, rfl⟩, _, by omega, by omega, rfl⟩, Res.le_refl _, trivial⟩
      exact allK_upd (g := fun p : Mrk => (⟨u4, p.kind, p.x, p.y, p.size⟩ : Mrk)) hsh (fun y hy => ⟨hw4, hy.2⟩)
    · first
        | refine .freeze _ 5 43 5 _ _ rfl (.weak _ ?_)
        | refine .freeze _ 100 43 5 _ _ rfl (.weak _ ?_)
      (conv => whnf)
      refine ⟨_, [(1000000, strm n L _)], SV.le_upd (fun p : Mrk => (⟨p.pan, u5, p.x, p.y, p.size⟩ : Mrk)) (fun _ => rfl), ⟨⟨_, ?_, rfl⟩, _, by omega, by omega, rfl⟩, Res.le_refl _, trivial⟩
      exact allK_upd (g := fun p : Mrk => (⟨p.pan, u5, p.x, p.y, p.size⟩ : Mrk)) hsh (fun y hy => hy)
    · first
        | refine .freeze _ 5 43 5 _ _ rfl (.weak _ ?_)
        | refine .freeze _ 100 43 5 _ _ rfl (.weak _ ?_)
      (conv => whnf)
      refine ⟨_, [(1000000, strm n L _)], SV.le_upd2 (f := mkF) (d := mk0) (l := e) (fun p : Mrk => (⟨p.pan, p.kind, u6, p.y, p.size⟩ : Mrk)) (fun p : Mrk => (⟨p.pan, p.kind, p.x, u7, p.size⟩ : Mrk)) (fun _ => rfl) (fun _ => rfl), ⟨⟨_, ?_, rfl⟩, _, by omega, by omega, rfl⟩, Res.le_refl _, trivial⟩
      exact allK_upd (g := fun p : Mrk => (⟨p.pan, p.kind, p.x, u7, p.size⟩ : Mrk)) (allK_upd (g := fun p : Mrk => (⟨p.pan, p.kind, u6, p.y, p.size⟩ : Mrk)) hsh (fun y hy => ⟨hy.1, (show -1099511627776 ≤ u6 ∧ u6 ≤ 1099511627776 from by omega), hy.2.2⟩)) (fun y hy => ⟨hy.1, hy.2.1, pk hu7 rfl, hy.2.2.2⟩)
    · first
        | refine .freeze _ 5 43 5 _ _ rfl (.weak _ ?_)
        | refine .freeze _ 100 43 5 _ _ rfl (.weak _ ?_)
      (conv => whnf)
      refine ⟨_, [(1000000, strm n L _)], SV.le_upd (fun p : Mrk => (⟨p.pan, p.kind, p.x, p.y, u8⟩ : Mrk)) (fun _ => rfl), ⟨⟨_, ?_, rfl⟩, _, by omega, by omega, rfl⟩, Res.le_refl _, trivial⟩
      exact allK_upd (g := fun p : Mrk => (⟨p.pan, p.kind, p.x, p.y, u8⟩ : Mrk)) hsh (fun y hy => ⟨hy.1, hy.2.1, hy.2.2.1, (show -1099511627776 ≤ u8 ∧ u8 ≤ 1099511627776 from by omega)⟩)
    all_goals
      first
        | refine .freeze _ 5 43 5 _ _ rfl (.weak _ ?_)
        | refine .freeze _ 100 43 5 _ _ rfl (.weak _ ?_)
      (conv => whnf)
      exact ⟨_, [(1000000, strm n L _)], SV.le_refl _, ⟨⟨e, hsh, rfl⟩, _, by omega, by omega, rfl⟩, Res.le_refl _, trivial⟩
end Go.Proofs.YtnkdlkgannnfhaaGreat
set_option maxRecDepth 20000
namespace Go.Proofs.YtnkdlkgannnfhaaGreat
open Go Go.Eng
theorem pkc {l : List Int} {x : Int} (h : x ∈ l) (hl : (l.all fun y => decide (-16 ≤ y) && decide (y ≤ 16)) = true) : -16 ≤ x ∧ x ≤ 16 := by
  have := List.all_eq_true.1 hl x h
  simpa using this
theorem pkz {x : Int} (h : x ∈ [(0 : Int), 0, 1, 2]) : 0 ≤ x ∧ x ≤ 2 := by
  simp at h; omega
theorem mkB_mono {c d : Int} {m : Mrk} (h : mkB c m) (hc : c ≤ d) : mkB d m := by
  unfold mkB at *; omega
-- Seen
end Go.Proofs.YtnkdlkgannnfhaaGreat
set_option maxRecDepth 20000
namespace Go.Proofs.YtnkdlkgannnfhaaGreat
open Go Go.Eng
def twoE (p : List Pnl) (r : Rul) (a b : List Mrk) : Int := firstE [rulE r, mrksPE p a, onPE p b]
theorem twoE_eq (p : List Pnl) (r : Rul) (a b : List Mrk) : firstE [rulE r, mrksPE p a, mrksPE p b] = twoE p r a b := by
  unfold twoE mrksPE
  simp only [firstE]
  grind
theorem twoE_zero {p : List Pnl} {r : Rul} {a b : List Mrk} (h : twoE p r a b = 0) : rulE r = 0 ∧ pansE p = 0 ∧ onPE p a = 0 ∧ onPE p b = 0 := by
  unfold twoE mrksPE at h
  simp only [firstE] at h
  grind
theorem rulE_bd {r : Rul} (h : rulE r = 0) : rBd r := by
  unfold rulE at h
  unfold rBd
  grind
theorem onPE_mBd {p : List Pnl} {l : List Mrk} (h : onPE p l = 0) : l.length ≤ 60 ∧ ∀ i, i < l.length → mBd (l.getD i mk0) := by
  obtain ⟨h1, h2⟩ := mrks_bd (onPE_bd h).1
  refine ⟨h1, fun i hi => ?_⟩
  have := h2 i hi
  unfold mBd
  omega
-- mark.checkTwo
theorem mkOk_of {c : Int} {k : Nat} {l : List Mrk} (h : allK (mkB c) k l) (hk : k ≤ 100) : mkOk l :=
  ⟨by have := h.1; omega, fun x hx => by have := (h.2 x hx).1; unfold mkK; omega⟩
theorem pnOk_of {k : Nat} {l : List Pnl} (h : allK pnG k l) (hk : k ≤ 100) : pnOk l :=
  ⟨by have := h.1; omega, fun x hx => by have := h.2 x hx; unfold pnG at this; unfold pnK; omega⟩
abbrev skV (p : List Pnl) (r : Rul) (a b : List Mrk) : SV := .agg [.d (pnls p), .d (.int .i64 r.near), .d (.int .i64 r.slack), .d (.int .i64 r.join), .d (.int .i64 r.part), .d (mrks a), .d (mrks b), .d (.int .i64 (twoE p r a b))]
-- sketchOf
end Go.Proofs.YtnkdlkgannnfhaaGreat
set_option maxRecDepth 20000
namespace Go.Proofs.YtnkdlkgannnfhaaGreat
open Go Go.Eng
structure Rep where
  kind : Int
  size : Int
  cents : Int
def reF : Rep → List DV := fun x => [.int .i64 x.kind, .int .i64 x.size, .int .i64 x.cents]
def re0 : Rep := ⟨0, 0, 0⟩
abbrev reps (l : List Rep) : DV := seqD 3 reF re0 l
def repE (l : List Rep) (i : Nat) : Int :=
  if ¬ (1 ≤ (l.getD i re0).kind ∧ (l.getD i re0).kind ≤ 4) then 4
  else if ¬ ((1 ≤ (l.getD i re0).size ∧ (l.getD i re0).size ≤ 2000) ∧ (0 ≤ (l.getD i re0).cents ∧ (l.getD i re0).cents ≤ 1000000)) then 1
  else if 0 < i ∧ ((l.getD i re0).kind < (l.getD (i - 1) re0).kind ∨ ((l.getD i re0).kind = (l.getD (i - 1) re0).kind ∧ (l.getD i re0).size ≤ (l.getD (i - 1) re0).size)) then 7 else 0
def repsE (l : List Rep) : Int := if 100 < l.length then 2 else firstAt (repE l) l.length
def reK (_ : Rep) : Prop := True
def reOk (l : List Rep) : Prop := l.length ≤ 2^40 ∧ ∀ x ∈ l, reK x
theorem s182p (a b c d : Int) : FSpec Tryz.prog 42 [.d (ints [cmpI a b, cmpI c d])] [] (fun x r => x = .d (.int .i64 (if a < b then -1 else if b < a then 1 else if c < d then -1 else if d < c then 1 else 0)) ∧ r = []) := by
  have h := s182 [cmpI a b, cmpI c d] (by simp)
  rwa [show firstE [cmpI a b, cmpI c d] = (if a < b then -1 else if b < a then 1 else if c < d then -1 else if d < c then 1 else 0) from by simp only [firstE, cmpI]; grind] at h
-- RepairsFault
-- mark.CheckRepairs
theorem z94 (l : List Rep) (hk : reOk l) : FSpec Tryz.prog 23 [.d (reps l)] [] (fun x r => x = .d (.int .i64 (repsE l)) ∧ r = []) := by
  refine spec_of hT (C := []) Tryz.func23 rfl Tryz.call23 rfl rfl rfl ?_
  conv => whnf
  refine br_intro (fun h0 => ?_) (fun h0 => ?_)
  · simp at h0
    conv => whnf
    refine .ret _ ?_
    conv => whnf
    refine ⟨[], ⟨?_, rfl⟩, trivial⟩
    conv => lhs; whnf
    unfold repsE; rw [if_pos (by omega)]
  simp at h0
  conv => whnf
  refine LoopX.rule hT (C := []) (ι := Nat) (fun i => i ≤ l.length ∧ ∀ j, j < i → repE l j = 0) (fun i => mkSt [(0, .d (reps l)), (8, .d (reps l)), (9, .d (.int .i64 l.length)), (10, .d (.int .i64 i))] []) (fun i => l.length - i) 0 ⟨by omega, by omega⟩ (by (refine Entails.mk' [] rfl rfl ?_ ?_ <;> repeat' (first | exact True.intro | exact SV.le_refl _ | exact Res.le_refl _ | exact SV.le_int (by omega) | exact SV.le_any _ | refine And.intro ?_ ?_)); done) ?_
  rintro i ⟨p1, p2⟩
  have hx : (i : Int) < l.length → reK (l.getD (i : Int).toNat re0) := fun hi => hk.2 _ (getD_mem (by omega))
  have e1 : (i : Int).toNat = i := Int.toNat_natCast i
  have hbad : ∀ e : Int, i < l.length → e ≠ 0 → repE l i = e → repsE l = e := fun e h h1 h2 => by
    unfold repsE; rw [if_neg (by omega)]
    exact firstAt_eq h p2 h1 h2
  conv => whnf
  repeat' (first
    | (refine CallX.exact (s119 _ _ _) rfl rfl ?_; rotate_right; conv => whnf)
    | (refine CallX.exact (s183 _ _) rfl rfl ?_; rotate_right; conv => whnf)
    | (refine CallX.pure (s182p _ _ _ _) ⟨SV.le_lit (by rfl) (by rfl), trivial⟩ rfl ?_; conv => whnf)
    | (refine br_intro (fun hb => ?_) (fun hb => ?_) <;> (try simp only [decide_eq_true_eq, decide_eq_false_iff_not, Bool.not_eq_true', Bool.not_eq_false', Bool.and_eq_true, Bool.or_eq_true, beq_iff_eq, not_and, Int.not_le, Int.not_lt, Int.toNat_natCast, beq_eq_false_iff_ne, ne_eq, eq_self, not_true_eq_false, not_false_eq_true] at hb) <;> (conv => whnf))
    | (refine RegX.rule (id := 10) hT rfl [] [(0, []), (1, []), (2, []), (3, []), (4, [3]), (5, [3]), (6, []), (7, []), (8, []), (9, [3, 4, 5, 6, 7, 8]), (10, [3, 4, 5, 6, 7, 8]), (12, [3, 4, 5, 6, 7, 8, 9, 10]), (13, [3, 4, 5, 6, 7, 8, 9, 10, 12]), (14, [3, 4, 5, 6, 7, 8, 9, 10, 12]), (15, [3, 4, 5, 6, 7, 8, 9, 10]), (16, [3, 4, 5, 6, 7, 8, 9, 10]), (17, [3, 4, 5, 6, 7, 8, 9, 10]), (18, [3, 4, 5, 6, 7, 8, 9, 10, 12, 13, 14, 15, 16, 17]), (19, [3, 4, 5, 6, 7, 8, 9, 10, 12, 13, 14, 15, 16, 17]), (11, [12, 13, 14, 15, 16, 17, 18, 19]), (20, []), (21, []), (22, []), (23, []), (24, []), (25, [])] (by decide +kernel) ?_; conv => whnf)
    | omega
    | (refine And.intro ?_ ?_; ((try dsimp only); first | omega | (refine ⟨by omega, by omega, Int.le_trans (Int.mul_le_mul_of_nonneg_right (Int.ofNat_le.2 (Nat.le_of_ble_eq_true (rfl : Nat.ble _ 1024 = true))) (by omega)) (by omega), by omega⟩) | (refine Nat.le_trans (Nat.mul_le_mul_left _ (Nat.le_of_ble_eq_true (rfl : Nat.ble _ 1024 = true))) ?_; omega) | (unfold inI64; omega) | (constructor <;> omega) | (simp only [inI64, List.length_cons, List.length_append, List.length_nil, List.length_set] at *; omega) | decide | (unfold inI64; decide)); conv => whnf)
    | omega | decide | assumption)
  all_goals first
    | (refine ⟨i + 1, ⟨by omega, first_step p2 (by clear p2 hbad hk hx; simp only [e1, toNat_pred] at *; unfold repE ; grind)⟩, by omega, (by (refine Entails.mk' [] rfl rfl ?_ ?_ <;> repeat' (first | exact True.intro | exact SV.le_refl _ | exact Res.le_refl _ | exact SV.le_int (by omega) | exact SV.le_any _ | refine And.intro ?_ ?_)); done)⟩)
    | (refine .ret _ ?_
       conv => whnf
       refine ⟨[], ⟨?_, rfl⟩, trivial⟩
       conv => lhs; whnf
       congr 2
       first
         | exact (hbad _ (by omega) (by decide) (by clear p2 hbad hk hx; simp only [e1, toNat_pred] at *; unfold repE ; grind)).symm
         | (have : i = l.length := by omega
            subst this
            unfold repsE; rw [if_neg (by omega), firstAt_zero p2]))
def prcN (l : List Rep) (m : Mrk) : Nat → Int
  | 0 => 0
  | i + 1 => if (l.getD i re0).kind = m.kind ∧ (l.getD i re0).size ≤ m.size then (l.getD i re0).cents else prcN l m i
def price (l : List Rep) (m : Mrk) : Int := prcN l m l.length
-- PriceOf
-- mark.price
theorem z192 (l : List Rep) (m : Mrk) (hl : l.length ≤ 2^40) : FSpec Tryz.prog 26 [.d (reps l), .agg ((mkF m).map .d)] [] (fun x r => x = .d (.int .i64 (price l m)) ∧ r = []) := by
  refine spec_of hT (C := []) Tryz.func26 rfl Tryz.call26 rfl rfl rfl ?_
  conv => whnf
  refine LoopX.rule hT (C := []) (ι := Nat) (fun i => i ≤ l.length) (fun i => mkSt [(3, .ptr 3 0), (5, .d (.int .i64 (prcN l m i))), (8, .d (reps l)), (9, .d (.int .i64 l.length)), (10, .d (.int .i64 i))] [(3, mcell m)]) (fun i => l.length - i) 0 (by omega) (by (refine Entails.mk' [(3, 3)] rfl rfl ?_ ?_ <;> repeat' (first | exact True.intro | exact SV.le_refl _ | exact Res.le_refl _ | exact SV.le_int (by omega) | exact SV.le_any _ | refine And.intro ?_ ?_)); done) ?_
  rintro i p1
  have e1 : (i : Int).toNat = i := Int.toNat_natCast i
  have hs : prcN l m (i + 1) = if (l.getD i re0).kind = m.kind ∧ (l.getD i re0).size ≤ m.size then (l.getD i re0).cents else prcN l m i := rfl
  conv => whnf
  repeat' (first
    | (refine br_intro (fun hb => ?_) (fun hb => ?_) <;> (try simp only [decide_eq_true_eq, decide_eq_false_iff_not, Bool.not_eq_true', Bool.not_eq_false', Bool.and_eq_true, Bool.or_eq_true, beq_iff_eq, not_and, Int.not_le, Int.not_lt, Int.toNat_natCast, beq_eq_false_iff_ne, ne_eq, eq_self, not_true_eq_false, not_false_eq_true] at hb) <;> (conv => whnf))
    | omega
    | (refine And.intro ?_ ?_; ((try dsimp only); first | omega | (refine ⟨by omega, by omega, Int.le_trans (Int.mul_le_mul_of_nonneg_right (Int.ofNat_le.2 (Nat.le_of_ble_eq_true (rfl : Nat.ble _ 1024 = true))) (by omega)) (by omega), by omega⟩) | (refine Nat.le_trans (Nat.mul_le_mul_left _ (Nat.le_of_ble_eq_true (rfl : Nat.ble _ 1024 = true))) ?_; omega) | (unfold inI64; omega) | (constructor <;> omega) | (simp only [inI64, List.length_cons, List.length_append, List.length_nil, List.length_set] at *; omega) | decide | (unfold inI64; decide)); conv => whnf)
    | omega | decide | assumption)
  all_goals first
    | (have hq : (l.getD i re0).kind = m.kind ∧ (l.getD i re0).size ≤ m.size := by simp only [e1] at *; grind
       refine ⟨i + 1, by omega, by omega, ?_⟩
       rw [hs, if_pos hq]
       exact Entails.mk' [(3, 3)] rfl rfl ⟨SV.le_refl _, SV.le_refl _, SV.le_refl _, SV.le_refl _, SV.le_refl _, trivial⟩ ⟨Res.le_refl _, trivial⟩)
    | (have hq : ¬ ((l.getD i re0).kind = m.kind ∧ (l.getD i re0).size ≤ m.size) := by simp only [e1] at *; grind
       refine ⟨i + 1, by omega, by omega, ?_⟩
       rw [hs, if_neg hq]
       exact Entails.mk' [(3, 3)] rfl rfl ⟨SV.le_refl _, SV.le_refl _, SV.le_refl _, SV.le_refl _, SV.le_refl _, trivial⟩ ⟨Res.le_refl _, trivial⟩)
    | (refine .ret _ ?_
       conv => whnf
       refine ⟨[], ⟨?_, rfl⟩, trivial⟩
       conv => lhs; whnf
       have : i = l.length := by omega
       subst this
       rfl)
-- slices.EqualFunc of groups
def grpE (p : List Pnl) (r : Rul) (l : List Mrk) : Int := firstE [rulE r, mrksPE p l]
theorem grpE_zero {p : List Pnl} {r : Rul} {l : List Mrk} (h : grpE p r l = 0) : rulE r = 0 ∧ onPE p l = 0 := by
  unfold grpE mrksPE at h
  simp only [firstE] at h
  grind
noncomputable def grpV (p : List Pnl) (r : Rul) (l : List Mrk) : SV := if grpE p r l = 0 then .tup [.d (grs (grI r l l.length)), .d (.int .i64 0)] else .tup [.d .nilsl, .d (.int .i64 (grpE p r l))]
-- mark.Groups
theorem z90 (p : List Pnl) (r : Rul) (l : List Mrk) (hp : pnOk p) (hk : mkOk l) (hl12 : l.length ≤ 12) : FSpec Tryz.prog 12 [.d (pnls p), .agg ((ruF r).map .d), .d (mrks l)] [] (fun x r' => x = grpV p r l ∧ r' = []) := by
  have h105 := s105 [rulE r, mrksPE p l] (by simp)
  unfold grpV
  by_cases hz : grpE p r l = 0
  · rw [if_pos hz]
    rw [show firstE [rulE r, mrksPE p l] = 0 from hz] at h105
    obtain ⟨h1, h2⟩ := grpE_zero hz
    have h191 := z191 r l (rulE_bd h1) hl12 (onPE_mBd h2).2
    refine spec_of hT (C := []) Tryz.func12 rfl Tryz.call12 rfl rfl rfl ?_
    conv => whnf
    repeat' (first
      | (refine CallX.exact (s102 r) rfl rfl ?_; rotate_right; conv => whnf)
      | (refine CallX.exact (s100 p l hp hk) rfl rfl ?_; rotate_right; conv => whnf)
      | (refine CallX.pure h105 ⟨SV.le_lit (by rfl) (by rfl), trivial⟩ rfl ?_; conv => whnf)
      | (refine CallX.exact (h191) rfl rfl ?_; rotate_right; conv => whnf)
      | (refine br_intro (fun hb => ?_) (fun hb => ?_) <;> (try simp only [decide_eq_true_eq, decide_eq_false_iff_not, Bool.not_eq_true', Bool.not_eq_false', Bool.and_eq_true, Bool.or_eq_true, beq_iff_eq, not_and, Int.not_le, Int.not_lt, Int.toNat_natCast, beq_eq_false_iff_ne, ne_eq, eq_self, not_true_eq_false, not_false_eq_true] at hb) <;> (conv => whnf))
      | omega
      | (refine And.intro ?_ ?_; ((try dsimp only); first | omega | (refine ⟨by omega, by omega, Int.le_trans (Int.mul_le_mul_of_nonneg_right (Int.ofNat_le.2 (Nat.le_of_ble_eq_true (rfl : Nat.ble _ 1024 = true))) (by omega)) (by omega), by omega⟩) | (refine Nat.le_trans (Nat.mul_le_mul_left _ (Nat.le_of_ble_eq_true (rfl : Nat.ble _ 1024 = true))) ?_; omega) | (unfold inI64; omega) | (constructor <;> omega) | (simp only [inI64, List.length_cons, List.length_append, List.length_nil, List.length_set] at *; omega) | decide | (unfold inI64; decide)); conv => whnf)
      | omega | decide | assumption)
    refine .ret _ ?_
    conv => whnf
    refine ⟨[], ⟨congrArg SV.tup ?_, rfl⟩, trivial⟩
    repeat' (refine cons_eq ?_ ?_)
    all_goals (conv => lhs; whnf)
    all_goals try (with_reducible rfl)
    all_goals rfl
  · rw [if_neg hz]
    rw [show firstE [rulE r, mrksPE p l] = grpE p r l from rfl] at h105
    generalize grpE p r l = e at h105 hz
    refine spec_of hT (C := []) Tryz.func12 rfl Tryz.call12 rfl rfl rfl ?_
    conv => whnf
    repeat' (first
      | (refine CallX.exact (s102 r) rfl rfl ?_; rotate_right; conv => whnf)
      | (refine CallX.exact (s100 p l hp hk) rfl rfl ?_; rotate_right; conv => whnf)
      | (refine CallX.pure h105 ⟨SV.le_lit (by rfl) (by rfl), trivial⟩ rfl ?_; conv => whnf)
      | (refine br_intro (fun hb => ?_) (fun hb => ?_) <;> (try simp only [decide_eq_true_eq, decide_eq_false_iff_not, Bool.not_eq_true', Bool.not_eq_false', Bool.and_eq_true, Bool.or_eq_true, beq_iff_eq, not_and, Int.not_le, Int.not_lt, Int.toNat_natCast, beq_eq_false_iff_ne, ne_eq, eq_self, not_true_eq_false, not_false_eq_true] at hb) <;> (conv => whnf))
      | omega
      | (refine And.intro ?_ ?_; ((try dsimp only); first | omega | (refine ⟨by omega, by omega, Int.le_trans (Int.mul_le_mul_of_nonneg_right (Int.ofNat_le.2 (Nat.le_of_ble_eq_true (rfl : Nat.ble _ 1024 = true))) (by omega)) (by omega), by omega⟩) | (refine Nat.le_trans (Nat.mul_le_mul_left _ (Nat.le_of_ble_eq_true (rfl : Nat.ble _ 1024 = true))) ?_; omega) | (unfold inI64; omega) | (constructor <;> omega) | (simp only [inI64, List.length_cons, List.length_append, List.length_nil, List.length_set] at *; omega) | decide | (unfold inI64; decide)); conv => whnf)
      | omega | decide | assumption)
    refine .ret _ ?_
    conv => whnf
    refine ⟨[], ⟨congrArg SV.tup ?_, rfl⟩, trivial⟩
    repeat' (refine cons_eq ?_ ?_)
    all_goals (conv => lhs; whnf)
    all_goals try (with_reducible rfl)
    all_goals rfl
def prE (l : List Rep) (m : Mrk) : Int := firstE [repsE l, mrksE [m]]
def prcV (l : List Rep) (m : Mrk) : SV := if prE l m = 0 then .tup [.d (.int .i64 (price l m)), .d (.int .i64 0)] else .tup [.d (.int .i64 0), .d (.int .i64 (prE l m))]
theorem mkOk_one {m : Mrk} (h : mkK m) : mkOk [m] := ⟨by simp, fun x hx => by rw [List.mem_singleton] at hx; rw [hx]; exact h⟩
-- mark.Price
theorem z91 (l : List Rep) (m : Mrk) (hl : reOk l) (hm : mkK m) : FSpec Tryz.prog 11 [.d (reps l), .agg ((mkF m).map .d)] [] (fun x r' => x = prcV l m ∧ r' = []) := by
  have h105 := s105 [repsE l, mrksE [m]] (by simp)
  have h192 := z192 l m hl.1
  unfold prcV
  by_cases hz : prE l m = 0
  · rw [if_pos hz]
    rw [show firstE [repsE l, mrksE [m]] = 0 from hz] at h105
    refine spec_of hT (C := []) Tryz.func11 rfl Tryz.call11 rfl rfl rfl ?_
    conv => whnf
    repeat' (first
      | (refine CallX.exact (z94 l hl) rfl rfl ?_; rotate_right; conv => whnf)
      | (refine CallX.pure (s192 [m] (mkOk_one hm)) ⟨SV.le_lit (by rfl) (by rfl), trivial⟩ rfl ?_; conv => whnf)
      | (refine CallX.pure h105 ⟨SV.le_lit (by rfl) (by rfl), trivial⟩ rfl ?_; conv => whnf)
      | (refine CallX.exact (h192) rfl rfl ?_; rotate_right; conv => whnf)
      | (refine br_intro (fun hb => ?_) (fun hb => ?_) <;> (try simp only [decide_eq_true_eq, decide_eq_false_iff_not, Bool.not_eq_true', Bool.not_eq_false', Bool.and_eq_true, Bool.or_eq_true, beq_iff_eq, not_and, Int.not_le, Int.not_lt, Int.toNat_natCast, beq_eq_false_iff_ne, ne_eq, eq_self, not_true_eq_false, not_false_eq_true] at hb) <;> (conv => whnf))
      | (refine RegX.rule (id := 1) hT rfl [] [(0, []), (2, [0]), (3, [0]), (1, [2, 3]), (4, []), (5, []), (6, []), (7, [])] (by decide +kernel) ?_; conv => whnf)
      | omega
      | (refine And.intro ?_ ?_; ((try dsimp only); first | omega | (refine ⟨by omega, by omega, Int.le_trans (Int.mul_le_mul_of_nonneg_right (Int.ofNat_le.2 (Nat.le_of_ble_eq_true (rfl : Nat.ble _ 1024 = true))) (by omega)) (by omega), by omega⟩) | (refine Nat.le_trans (Nat.mul_le_mul_left _ (Nat.le_of_ble_eq_true (rfl : Nat.ble _ 1024 = true))) ?_; omega) | (unfold inI64; omega) | (constructor <;> omega) | (simp only [inI64, List.length_cons, List.length_append, List.length_nil, List.length_set] at *; omega) | decide | (unfold inI64; decide)); conv => whnf)
      | omega | decide | assumption)
    refine .ret _ ?_
    conv => whnf
    refine ⟨[], ⟨congrArg SV.tup ?_, rfl⟩, trivial⟩
    repeat' (refine cons_eq ?_ ?_)
    all_goals (conv => lhs; whnf)
    all_goals try (with_reducible rfl)
    all_goals rfl
  · rw [if_neg hz]
    rw [show firstE [repsE l, mrksE [m]] = prE l m from rfl] at h105
    generalize prE l m = e at h105 hz
    refine spec_of hT (C := []) Tryz.func11 rfl Tryz.call11 rfl rfl rfl ?_
    conv => whnf
    repeat' (first
      | (refine CallX.exact (z94 l hl) rfl rfl ?_; rotate_right; conv => whnf)
      | (refine CallX.pure (s192 [m] (mkOk_one hm)) ⟨SV.le_lit (by rfl) (by rfl), trivial⟩ rfl ?_; conv => whnf)
      | (refine CallX.pure h105 ⟨SV.le_lit (by rfl) (by rfl), trivial⟩ rfl ?_; conv => whnf)
      | (refine br_intro (fun hb => ?_) (fun hb => ?_) <;> (try simp only [decide_eq_true_eq, decide_eq_false_iff_not, Bool.not_eq_true', Bool.not_eq_false', Bool.and_eq_true, Bool.or_eq_true, beq_iff_eq, not_and, Int.not_le, Int.not_lt, Int.toNat_natCast, beq_eq_false_iff_ne, ne_eq, eq_self, not_true_eq_false, not_false_eq_true] at hb) <;> (conv => whnf))
      | (refine RegX.rule (id := 1) hT rfl [] [(0, []), (2, [0]), (3, [0]), (1, [2, 3]), (4, []), (5, []), (6, []), (7, [])] (by decide +kernel) ?_; conv => whnf)
      | omega
      | (refine And.intro ?_ ?_; ((try dsimp only); first | omega | (refine ⟨by omega, by omega, Int.le_trans (Int.mul_le_mul_of_nonneg_right (Int.ofNat_le.2 (Nat.le_of_ble_eq_true (rfl : Nat.ble _ 1024 = true))) (by omega)) (by omega), by omega⟩) | (refine Nat.le_trans (Nat.mul_le_mul_left _ (Nat.le_of_ble_eq_true (rfl : Nat.ble _ 1024 = true))) ?_; omega) | (unfold inI64; omega) | (constructor <;> omega) | (simp only [inI64, List.length_cons, List.length_append, List.length_nil, List.length_set] at *; omega) | decide | (unfold inI64; decide)); conv => whnf)
      | omega | decide | assumption)
    refine .ret _ ?_
    conv => whnf
    refine ⟨[], ⟨congrArg SV.tup ?_, rfl⟩, trivial⟩
    repeat' (refine cons_eq ?_ ?_)
    all_goals (conv => lhs; whnf)
    all_goals try (with_reducible rfl)
    all_goals rfl
def reLit (u1 u2 u3 : Int) : List Rep := [⟨1, 1, u1⟩, ⟨1, u2, 3001⟩, ⟨2, u3, 2500⟩, ⟨3, 50, 999⟩]
theorem reLit_rows (u1 u2 u3 : Int) : ∀ i, i < (reLit u1 u2 u3).length → [[DV.int .i64 1, .int .i64 1, .int .i64 u1], [.int .i64 1, .int .i64 u2, .int .i64 3001], [.int .i64 2, .int .i64 u3, .int .i64 2500], [.int .i64 3, .int .i64 50, .int .i64 999]].getD i [] = rowF reF re0 (reLit u1 u2 u3) i := rows_lit rfl
-- Repairs
theorem sRep (n : Nat) (L : Nat → Int) (hL : Rok n L) (a : Int) (h0 : 0 ≤ a) (ha : a ≤ 2^38) :
    FSpec Tryz.prog 6 [.ptr 1000000 0] [(1000000, strm n L a)] (fun y r => (∃ l : List Rep, l.length ≤ 4 ∧ y = .d (reps l)) ∧ Moved n L a 20 r) := by
  refine spec_of hT (C := [17]) Tryz.func6 rfl Tryz.call6 rfl rfl rfl ?_
  conv => whnf
  repeat' (first
    | (refine CallX.of (s33 n L hL _ ?_ ?_ [0, 1000] ?_ ?_) [(1000000, 1000000)] rfl ⟨SV.le_refl _, SV.le_lit rfl rfl, trivial⟩ ⟨Res.le_refl _, trivial⟩ rfl rfl ?_; rotate_right; rintro x rout ⟨⟨u1, hu1, rfl⟩, ⟨c, c1, c2, rfl⟩⟩; refine ⟨rfl, ?_⟩; conv => whnf)
    | (refine CallX.of (s33 n L hL _ ?_ ?_ [8, 10, 11] ?_ ?_) [(1000000, 1000000)] rfl ⟨SV.le_refl _, SV.le_lit rfl rfl, trivial⟩ ⟨Res.le_refl _, trivial⟩ rfl rfl ?_; rotate_right; rintro x rout ⟨⟨u2, hu2, rfl⟩, ⟨c, c1, c2, rfl⟩⟩; refine ⟨rfl, ?_⟩; conv => whnf)
    | (refine CallX.of (s33 n L hL _ ?_ ?_ [1, 5] ?_ ?_) [(1000000, 1000000)] rfl ⟨SV.le_refl _, SV.le_lit rfl rfl, trivial⟩ ⟨Res.le_refl _, trivial⟩ rfl rfl ?_; rotate_right; rintro x rout ⟨⟨u3, hu3, rfl⟩, ⟨c, c1, c2, rfl⟩⟩; refine ⟨rfl, ?_⟩; conv => whnf)
    | (refine CallX.of (s84 n L hL _ ?_ ?_ _ ?_) [(1000000, 1000000)] rfl ⟨SV.le_refl _, SV.le_refl _, trivial⟩ ⟨Res.le_refl _, trivial⟩ rfl rfl ?_; rotate_right; rintro x rout ⟨⟨f, rfl⟩, ⟨c, c1, c2, rfl⟩⟩; refine ⟨rfl, ?_⟩; conv => whnf)
    | (refine CallX.of (s86 n L hL _ ?_ ?_ _ ?_) [(1000000, 1000000)] rfl ⟨SV.le_refl _, SV.le_refl _, trivial⟩ ⟨Res.le_refl _, trivial⟩ rfl rfl ?_; rotate_right; rintro x rout ⟨⟨j, hj1, hj2, hj3, rfl⟩, ⟨c, c1, c2, rfl⟩⟩; refine ⟨rfl, ?_⟩; conv => whnf)
    | (refine CallX.of (s104 n L hL _ ?_ ?_ 1 4 ?_ ?_ ?_) [(1000000, 1000000)] rfl ⟨SV.le_refl _, SV.le_refl _, SV.le_refl _, trivial⟩ ⟨Res.le_refl _, trivial⟩ rfl rfl ?_; rotate_right; rintro x rout ⟨⟨u4, hk1, hk2, rfl⟩, ⟨c, c1, c2, rfl⟩⟩; refine ⟨rfl, ?_⟩; conv => whnf)
    | (refine CallX.of (s104 n L hL _ ?_ ?_ 1 2000 ?_ ?_ ?_) [(1000000, 1000000)] rfl ⟨SV.le_refl _, SV.le_refl _, SV.le_refl _, trivial⟩ ⟨Res.le_refl _, trivial⟩ rfl rfl ?_; rotate_right; rintro x rout ⟨⟨u5, hk3, hk4, rfl⟩, ⟨c, c1, c2, rfl⟩⟩; refine ⟨rfl, ?_⟩; conv => whnf)
    | (refine CallX.of (s104 n L hL _ ?_ ?_ 0 1000000 ?_ ?_ ?_) [(1000000, 1000000)] rfl ⟨SV.le_refl _, SV.le_refl _, SV.le_refl _, trivial⟩ ⟨Res.le_refl _, trivial⟩ rfl rfl ?_; rotate_right; rintro x rout ⟨⟨u6, hk5, hk6, rfl⟩, ⟨c, c1, c2, rfl⟩⟩; refine ⟨rfl, ?_⟩; conv => whnf)
    | (refine CallX.of (s64 n L hL _ ?_ ?_ 0 4 ?_ ?_ ?_ ?_) [(1000000, 1000000)] rfl ⟨SV.le_refl _, SV.le_refl _, SV.le_refl _, trivial⟩ ⟨Res.le_refl _, trivial⟩ rfl rfl ?_; rotate_right; rintro x rout ⟨⟨u7, hk7, hk8, rfl⟩, ⟨c, c1, c2, rfl⟩⟩; refine ⟨rfl, ?_⟩; conv => whnf)
    | (refine SliceX.freeze 56 3 _ _ rfl ?_; conv => whnf)
    | (refine br_intro (fun hb => ?_) (fun hb => ?_) <;> (try simp only [decide_eq_true_eq, decide_eq_false_iff_not, Bool.not_eq_true', Bool.not_eq_false', Bool.and_eq_true, Bool.or_eq_true, beq_iff_eq, not_and, Int.not_le, Int.not_lt, Int.toNat_natCast, beq_eq_false_iff_ne, ne_eq, eq_self, not_true_eq_false, not_false_eq_true] at hb) <;> (conv => whnf))
    | omega
    | (refine And.intro ?_ ?_; ((try dsimp only); first | omega | (refine ⟨by omega, by omega, Int.le_trans (Int.mul_le_mul_of_nonneg_right (Int.ofNat_le.2 (Nat.le_of_ble_eq_true (rfl : Nat.ble _ 1024 = true))) (by omega)) (by omega), by omega⟩) | (refine Nat.le_trans (Nat.mul_le_mul_left _ (Nat.le_of_ble_eq_true (rfl : Nat.ble _ 1024 = true))) ?_; omega) | (unfold inI64; omega) | (constructor <;> omega) | (simp only [inI64, List.length_cons, List.length_append, List.length_nil, List.length_set] at *; omega) | decide | (unfold inI64; decide)); conv => whnf)
    | omega | decide | assumption)
  · have hj : j = 0 ∨ j = 1 ∨ j = 2 ∨ j = 3 := by omega
    rcases hj with rfl | rfl | rfl | rfl
    all_goals
      conv => whnf
      repeat' (first
        | (refine CallX.of (s104 n L hL _ ?_ ?_ 1 4 ?_ ?_ ?_) [(1000000, 1000000)] rfl ⟨SV.le_refl _, SV.le_refl _, SV.le_refl _, trivial⟩ ⟨Res.le_refl _, trivial⟩ rfl rfl ?_; rotate_right; rintro x rout ⟨⟨u4, hk1, hk2, rfl⟩, ⟨c, c1, c2, rfl⟩⟩; refine ⟨rfl, ?_⟩; conv => whnf)
        | (refine CallX.of (s104 n L hL _ ?_ ?_ 1 2000 ?_ ?_ ?_) [(1000000, 1000000)] rfl ⟨SV.le_refl _, SV.le_refl _, SV.le_refl _, trivial⟩ ⟨Res.le_refl _, trivial⟩ rfl rfl ?_; rotate_right; rintro x rout ⟨⟨u5, hk3, hk4, rfl⟩, ⟨c, c1, c2, rfl⟩⟩; refine ⟨rfl, ?_⟩; conv => whnf)
        | (refine CallX.of (s104 n L hL _ ?_ ?_ 0 1000000 ?_ ?_ ?_) [(1000000, 1000000)] rfl ⟨SV.le_refl _, SV.le_refl _, SV.le_refl _, trivial⟩ ⟨Res.le_refl _, trivial⟩ rfl rfl ?_; rotate_right; rintro x rout ⟨⟨u6, hk5, hk6, rfl⟩, ⟨c, c1, c2, rfl⟩⟩; refine ⟨rfl, ?_⟩; conv => whnf)
        | (refine CallX.of (s64 n L hL _ ?_ ?_ 0 4 ?_ ?_ ?_ ?_) [(1000000, 1000000)] rfl ⟨SV.le_refl _, SV.le_refl _, SV.le_refl _, trivial⟩ ⟨Res.le_refl _, trivial⟩ rfl rfl ?_; rotate_right; rintro x rout ⟨⟨u7, hk7, hk8, rfl⟩, ⟨c, c1, c2, rfl⟩⟩; refine ⟨rfl, ?_⟩; conv => whnf)
        | (refine SliceX.freeze 56 3 _ _ rfl ?_; conv => whnf)
        | (refine br_intro (fun hb => ?_) (fun hb => ?_) <;> (try simp only [decide_eq_true_eq, decide_eq_false_iff_not, Bool.not_eq_true', Bool.not_eq_false', Bool.and_eq_true, Bool.or_eq_true, beq_iff_eq, not_and, Int.not_le, Int.not_lt, Int.toNat_natCast, beq_eq_false_iff_ne, ne_eq, eq_self, not_true_eq_false, not_false_eq_true] at hb) <;> (conv => whnf))
        | omega
        | (refine And.intro ?_ ?_; ((try dsimp only); first | omega | (refine ⟨by omega, by omega, Int.le_trans (Int.mul_le_mul_of_nonneg_right (Int.ofNat_le.2 (Nat.le_of_ble_eq_true (rfl : Nat.ble _ 1024 = true))) (by omega)) (by omega), by omega⟩) | (refine Nat.le_trans (Nat.mul_le_mul_left _ (Nat.le_of_ble_eq_true (rfl : Nat.ble _ 1024 = true))) ?_; omega) | (unfold inI64; omega) | (constructor <;> omega) | (simp only [inI64, List.length_cons, List.length_append, List.length_nil, List.length_set] at *; omega) | decide | (unfold inI64; decide)); conv => whnf)
        | omega | decide | assumption)
      refine .weak _ ?_
      (conv => whnf)
      refine ⟨_, [(1000000, strm n L _)], SV.le_take (f := reF) (d := re0) (rows_updG (reLit_rows u1 u2 u3) (fun _ : Rep => (⟨u4, u5, u6⟩ : Rep)) (fun _ => rfl)) (by simp [reLit]; omega), ⟨⟨_, ?_, rfl⟩, _, by omega, by omega, rfl⟩, Res.le_refl _, trivial⟩
      simp [reLit]
      omega
  · refine .weak _ ?_
    (conv => whnf)
    exact ⟨_, [(1000000, strm n L _)], SV.le_take (l := reLit u1 u2 u3) (reLit_rows u1 u2 u3) (by show (u7 - 0).toNat ≤ 4; omega), ⟨⟨_, by simp [reLit]; omega, rfl⟩, _, by omega, by omega, rfl⟩, Res.le_refl _, trivial⟩
end Go.Proofs.YtnkdlkgannnfhaaGreat
set_option maxRecDepth 20000
namespace Go.Proofs.YtnkdlkgannnfhaaGreat
open Go Go.Eng
theorem toI_set (o : List Nat) (i x : Nat) : toI (o.set i x) = (toI o).set i (x : Int) := by simp [toI, List.map_set]
theorem toI_getX {o : List Nat} {i : Nat} (h : i < o.length) : (toI o).getD i 0 = ((o.getD i 0 : Nat) : Int) := toI_get h
theorem setN_get {o : List Nat} {i k x : Nat} (hi : i < o.length) : (o.set i x).getD k 0 = if k = i then x else o.getD k 0 := by
  rw [List.getD_eq_getElem?_getD, List.getElem?_set]
  by_cases h : i = k
  · subst h; simp [hi]
  · rw [if_neg h, if_neg (fun e => h e.symm), List.getD_eq_getElem?_getD]
abbrev lowO (r : Rul) (l : List Mrk) (o : List Nat) (t i k : Nat) : Prop := o.length = l.length ∧ lowI l.length (joinB r l) (fun x => o.getD x 0) t i k
theorem lowO_put {r : Rul} {l : List Mrk} {o : List Nat} {t i k : Nat} (h : lowO r l o t i k) (hi : i < l.length) (hk : k < l.length) (hJ : joinB r l i k = true) : lowO r l (o.set i (min (o.getD i 0) (o.getD k 0))) t i (k + 1) := by
  have hlen := h.1
  refine ⟨by rw [List.length_set]; exact h.1, h.2.put hi hk hJ ?_ (fun x hx => ?_)⟩
  · show (o.set i (min (o.getD i 0) (o.getD k 0))).getD i 0 = min (o.getD i 0) (o.getD k 0)
    rw [setN_get (by omega), if_pos rfl]
  · show (o.set i (min (o.getD i 0) (o.getD k 0))).getD x 0 = o.getD x 0
    rw [setN_get (by omega), if_neg hx]
def ofI (o : List Nat) (i k : Nat) : List Int := toI ((List.range k).filter fun x => o.getD x 0 == i)
theorem ofI_succ (o : List Nat) (i k : Nat) : ofI o i (k + 1) = if o.getD k 0 = i then ofI o i k ++ [(k : Int)] else ofI o i k := by
  unfold ofI
  rw [List.range_succ, List.filter_append]
  by_cases h : o.getD k 0 = i
  · rw [if_pos h, List.filter_cons_of_pos (p := fun x => o.getD x 0 == i) (by simpa using h), toI]
    simp [toI]
  · rw [if_neg h, List.filter_cons_of_neg (p := fun x => o.getD x 0 == i) (by simpa using h)]; simp
theorem ofI_len (o : List Nat) (i k : Nat) : (ofI o i k).length ≤ k := by
  unfold ofI; rw [toI_len]; exact Nat.le_trans (List.length_filter_le _ _) (by simp)
theorem ofI_end {r : Rul} {l : List Mrk} {o : List Nat} (h : isLab l.length (joinB r l) (fun x => o.getD x 0)) (i : Nat) : ofI o i l.length = grpI r l i := by
  unfold ofI grpI
  congr 1
  exact h.grp (labM_lab r l) i
theorem grI_step (r : Rul) (l : List Mrk) (i : Nat) : grI r l (i + 1) = if grpI r l i = [] then grI r l i else grI r l i ++ [grpI r l i] := by
  unfold grI grpI
  rw [grpsF]
  by_cases h : grpF l.length (labM r l) i = []
  · rw [if_pos h, if_pos (by rw [h]; rfl)]
  · rw [if_neg h, if_neg (fun q => h (by cases hg : grpF l.length (labM r l) i with
      | nil => rfl
      | cons x g => rw [hg] at q; cases q)), List.map_append]; rfl
-- GroupsOf
end Go.Proofs.YtnkdlkgannnfhaaGreat
set_option maxRecDepth 20000
namespace Go.Proofs.YtnkdlkgannnfhaaGreat
open Go Go.Eng
theorem grpI_len (r : Rul) (l : List Mrk) (i : Nat) : (grpI r l i).length ≤ l.length := by
  unfold grpI grpF
  rw [toI_len]
  exact Nat.le_trans (List.length_filter_le _ _) (by simp)
theorem grI_in (r : Rul) (l : List Mrk) : ∀ i, ∀ g ∈ grI r l i, g.length ≤ l.length := by
  intro i
  induction i with
  | zero => intro g hg; simp [grI, grpsF] at hg
  | succ i ih =>
    intro g hg
    rw [grI_step] at hg
    split at hg
    · exact ih g hg
    · rcases List.mem_append.1 hg with q | q
      · exact ih g q
      · rw [List.mem_singleton] at q; rw [q]; exact grpI_len r l i
-- RepairsGroup
end Go.Proofs.YtnkdlkgannnfhaaGreat
set_option maxRecDepth 20000
namespace Go.Proofs.YtnkdlkgannnfhaaGreat
open Go Go.Eng
def mostN (q : List Rep) (l : List Mrk) (g : List Int) : Nat → Int
  | 0 => 0
  | i + 1 => max (mostN q l g i) (price q (l.getD (g.getD i 0).toNat mk0))
def sumN (q : List Rep) (l : List Mrk) (g : List Int) : Nat → Int
  | 0 => 0
  | i + 1 => sumN q l g i + price q (l.getD (g.getD i 0).toNat mk0)
def amtI (q : List Rep) (r : Rul) (l : List Mrk) (g : List Int) : Int := mostN q l g g.length + (r.part * (sumN q l g g.length - mostN q l g g.length)).tdiv 1000
def panG (l : List Mrk) (g : List Int) : List UInt8 := (l.getD (g.getD 0 0).toNat mk0).pan
def estN (q : List Rep) (r : Rul) (l : List Mrk) (G : List (List Int)) (key : List UInt8) : Nat → Int
  | 0 => 0
  | t + 1 => if panG l (G.getD t []) = key then estN q r l G key t + amtI q r l (G.getD t []) else estN q r l G key t
theorem price_bd {q : List Rep} (h : repsE q = 0) (m : Mrk) : 0 ≤ price q m ∧ price q m ≤ 1000000 := by
  unfold repsE at h
  split at h
  · cases h
  have hc : ∀ j, j < q.length → 0 ≤ (q.getD j re0).cents ∧ (q.getD j re0).cents ≤ 1000000 := fun j hj => by
    have := firstAt_all h j hj
    unfold repE at this
    grind
  have : ∀ i, i ≤ q.length → 0 ≤ prcN q m i ∧ prcN q m i ≤ 1000000 := by
    intro i
    induction i with
    | zero => intro _; simp [prcN]
    | succ i ih =>
      intro hi
      rw [prcN]
      split
      · exact hc i (by omega)
      · exact ih (by omega)
  exact this _ (Nat.le_refl _)
theorem most_bd {q : List Rep} (h : repsE q = 0) (l : List Mrk) (g : List Int) : ∀ i, 0 ≤ mostN q l g i ∧ mostN q l g i ≤ 1000000 ∧ mostN q l g i ≤ sumN q l g i ∧ sumN q l g i ≤ 1000000 * i := by
  intro i
  induction i with
  | zero => simp [mostN, sumN]
  | succ i ih =>
    have := price_bd h (l.getD (g.getD i 0).toNat mk0)
    rw [mostN, sumN]
    omega
theorem prod_bd {a b : Int} (h0 : 0 ≤ a) (h1 : a ≤ 1000) (h2 : 0 ≤ b) : 0 ≤ a * b ∧ a * b ≤ 1000 * b ∧ 0 ≤ (a * b).tdiv 1000 ∧ (a * b).tdiv 1000 ≤ b := by
  have e1 : 0 ≤ a * b := Int.mul_nonneg h0 h2
  have e2 : a * b ≤ 1000 * b := Int.mul_le_mul_of_nonneg_right h1 h2
  rw [Int.tdiv_eq_ediv_of_nonneg e1]
  omega
theorem amt_bd {q : List Rep} (h : repsE q = 0) {r : Rul} (hr : rBd r) (l : List Mrk) {g : List Int} (hg : g.length ≤ 12) : 0 ≤ amtI q r l g ∧ amtI q r l g ≤ 13000000 := by
  have h1 := most_bd h l g g.length
  have h2 := prod_bd (a := r.part) (b := sumN q l g g.length - mostN q l g g.length) (by unfold rBd at hr; omega) (by unfold rBd at hr; omega) (by omega)
  unfold amtI
  omega
theorem est_bd {q : List Rep} (h : repsE q = 0) {r : Rul} (hr : rBd r) (l : List Mrk) {G : List (List Int)} (hG : ∀ g ∈ G, g.length ≤ 12) (key : List UInt8) : ∀ t, t ≤ G.length → 0 ≤ estN q r l G key t ∧ estN q r l G key t ≤ 13000000 * t := by
  intro t
  induction t with
  | zero => intro _; simp [estN]
  | succ t ih =>
    intro ht
    have := ih (by omega)
    have h1 := amt_bd h hr l (hG (G.getD t []) (getD_mem (by omega)))
    rw [estN]
    split <;> omega
def outS (q : List Rep) (r : Rul) (l : List Mrk) (G : List (List Int)) (p : List Pnl) (j : Nat) : Int := min (estN q r l G (p.getD j pn0).key G.length) (p.getD j pn0).pr
def outL (q : List Rep) (r : Rul) (l : List Mrk) (G : List (List Int)) (p : List Pnl) : Nat → List Int
  | 0 => []
  | n + 1 => outL q r l G p n ++ [outS q r l G p n]
def allN (q : List Rep) (r : Rul) (l : List Mrk) (G : List (List Int)) (p : List Pnl) : Nat → Int
  | 0 => 0
  | n + 1 => allN q r l G p n + outS q r l G p n
theorem outL_len (q : List Rep) (r : Rul) (l : List Mrk) (G : List (List Int)) (p : List Pnl) : ∀ n, (outL q r l G p n).length = n := by
  intro n
  induction n with
  | zero => rfl
  | succ n ih => rw [outL, List.length_append, ih]; rfl
theorem outL_get (q : List Rep) (r : Rul) (l : List Mrk) (G : List (List Int)) (p : List Pnl) : ∀ n j, j < n → (outL q r l G p n).getD j 0 = outS q r l G p j := by
  intro n
  induction n with
  | zero => intro j hj; omega
  | succ n ih =>
    intro j hj
    have hl := outL_len q r l G p n
    rw [outL, List.getD_eq_getElem?_getD]
    rcases Nat.lt_or_ge j n with h | h
    · rw [List.getElem?_append_left (by omega), ← List.getD_eq_getElem?_getD, ih j h]
    · have : j = n := by omega
      subst this
      rw [List.getElem?_append_right (by omega), hl]; simp
theorem all_bd {q : List Rep} {r : Rul} {l : List Mrk} {G : List (List Int)} {p : List Pnl} (h : ∀ j, j < p.length → 0 ≤ outS q r l G p j ∧ outS q r l G p j ≤ 1000000) : ∀ n, n ≤ p.length → 0 ≤ allN q r l G p n ∧ allN q r l G p n ≤ 1000000 * n := by
  intro n
  induction n with
  | zero => intro _; simp [allN]
  | succ n ih =>
    intro hn
    have := ih (by omega)
    have := h n (by omega)
    rw [allN]
    omega
theorem panE_pr {p : List Pnl} (h : pansE p = 0) : p.length ≤ 40 ∧ ∀ j, j < p.length → 0 ≤ (p.getD j pn0).pr ∧ (p.getD j pn0).pr ≤ 1000000 := by
  unfold pansE at h
  split at h
  · cases h
  refine ⟨by omega, fun j hj => ?_⟩
  have := firstAt_all h j hj
  unfold panE at this
  grind
theorem pan_up {p : List Pnl} (h : pansE p = 0) : ∀ j i, i < j → j < p.length → Op.bytesLess (p.getD i pn0).key (p.getD j pn0).key = true := by
  unfold pansE at h
  split at h
  · cases h
  have hs : ∀ j, 0 < j → j < p.length → Op.bytesLess (p.getD (j - 1) pn0).key (p.getD j pn0).key = true := fun j h0 hj => by
    have := firstAt_all h j hj
    unfold panE strLe at this
    simp only at this
    have h3 : ¬ ((Op.bytesLess (p.getD j pn0).key (p.getD (j - 1) pn0).key || (p.getD j pn0).key == (p.getD (j - 1) pn0).key) = true) := fun q => by
      split at this
      · cases this
      · rw [if_pos ⟨h0, q⟩] at this; cases this
    rw [Bool.or_eq_true, not_or] at h3
    exact less_tri _ _ (by simpa using h3.1) (by simpa using h3.2)
  intro j
  induction j with
  | zero => intro i hi; omega
  | succ j ih =>
    intro i hi hj
    have h1 := hs (j + 1) (by omega) hj
    rcases Nat.lt_or_ge i j with q | q
    · exact less_trans (ih i q (by omega)) h1
    · have : i = j := by omega
      subst this; exact h1
theorem pan_uniq {p : List Pnl} (h : pansE p = 0) {i j : Nat} (hi : i < p.length) (hj : j < p.length) (e : (p.getD i pn0).key = (p.getD j pn0).key) : i = j := by
  rcases Nat.lt_trichotomy i j with q | q | q
  · have := pan_up h j i q hj
    rw [e, less_irr] at this; cases this
  · exact q
  · have := pan_up h i j q hi
    rw [e, less_irr] at this; cases this
theorem onPE_pan {p : List Pnl} {l : List Mrk} (h : onPE p l = 0) : ∀ i, i < l.length → 0 ≤ panIx p (l.getD i mk0).pan := by
  unfold onPE at h
  split at h
  · omega
  split at h
  · omega
  rename_i h1
  intro i hi
  have := firstAt_all (by omega : firstAt (onE p l) l.length = 0) i hi
  unfold onE at this
  simp only at this
  split at this
  · omega
  · omega
theorem panIx_hit {p : List Pnl} {key : List UInt8} (h : 0 ≤ panIx p key) : (p.getD (panIx p key).toNat pn0).key = key := by
  have := (ixF_bd (p := fun i => (p.getD i pn0).key == key) (n := p.length)).2.2 h
  exact eq_of_beq this
theorem grI_all (r : Rul) (l : List Mrk) : ∀ i, ∀ g ∈ grI r l i, g.length ≤ l.length ∧ 0 < g.length ∧ ∀ k, k < g.length → 0 ≤ g.getD k 0 ∧ (g.getD k 0).toNat < l.length := by
  have hone : ∀ i, grpI r l i ≠ [] → (grpI r l i).length ≤ l.length ∧ 0 < (grpI r l i).length ∧ ∀ k, k < (grpI r l i).length → 0 ≤ (grpI r l i).getD k 0 ∧ ((grpI r l i).getD k 0).toNat < l.length := fun i h => by
    refine ⟨grpI_len r l i, List.length_pos_iff.2 h, fun k hk => ?_⟩
    unfold grpI at hk ⊢
    rw [toI_len] at hk
    rw [toI_get hk]
    have hm : (grpF l.length (labM r l) i).getD k 0 ∈ grpF l.length (labM r l) i := getD_mem hk
    unfold grpF at hm ⊢
    have := List.mem_range.1 (List.mem_filter.1 hm).1
    omega
  intro i
  induction i with
  | zero => intro g hg; simp [grI, grpsF] at hg
  | succ i ih =>
    intro g hg
    rw [grI_step] at hg
    split at hg
    · exact ih g hg
    · rcases List.mem_append.1 hg with q | q
      · exact ih g q
      · rename_i hne
        rw [List.mem_singleton] at q; rw [q]; exact hone i hne
abbrev lcell (l : List Mrk) : Res := .cells 33 [.d (mrks l)]
abbrev gcell (g : List Int) : Res := .cells 22 [.d (ints g)]
-- mark.Estimate$1
theorem z194 (l : List Mrk) (g : List Int) (hg : 0 < g.length) (h0 : 0 ≤ g.getD 0 0) (h1 : (g.getD 0 0).toNat < l.length) (x : Pnl) : FSpec Tryz.prog 28 [.agg ((pnF x).map .d), .ptr 1000001 0, .ptr 1000002 0] [(1000001, lcell l), (1000002, gcell g)] (fun y r => y = .d (.bool (x.key == panG l g)) ∧ r = [(1000001, lcell l), (1000002, gcell g)]) := by
  have h2 : 0 ≤ g.getD (Int.toNat 0) 0 ∧ g.getD (Int.toNat 0) 0 < (l.length : Int) := ⟨h0, by show g.getD 0 0 < _; omega⟩
  refine spec_of hT (C := []) Tryz.func28 rfl Tryz.call28 rfl rfl rfl ?_
  conv => whnf
  repeat' (first
    | (refine br_intro (fun hb => ?_) (fun hb => ?_) <;> (try simp only [decide_eq_true_eq, decide_eq_false_iff_not, Bool.not_eq_true', Bool.not_eq_false', Bool.and_eq_true, Bool.or_eq_true, beq_iff_eq, not_and, Int.not_le, Int.not_lt, Int.toNat_natCast, beq_eq_false_iff_ne, ne_eq, eq_self, not_true_eq_false, not_false_eq_true] at hb) <;> (conv => whnf))
    | (refine RegX.rule (id := 1) hT rfl [] [(0, []), (1, []), (2, [0, 1]), (3, [0, 1, 2]), (4, [0, 1, 2]), (5, [0, 1, 2]), (6, [0, 1]), (7, [0, 1]), (8, [0, 1]), (9, []), (10, [])] (by decide +kernel) ?_; conv => whnf)
    | omega
    | (refine And.intro ?_ ?_; ((try dsimp only); first | omega | (refine ⟨by omega, by omega, Int.le_trans (Int.mul_le_mul_of_nonneg_right (Int.ofNat_le.2 (Nat.le_of_ble_eq_true (rfl : Nat.ble _ 1024 = true))) (by omega)) (by omega), by omega⟩) | (refine Nat.le_trans (Nat.mul_le_mul_left _ (Nat.le_of_ble_eq_true (rfl : Nat.ble _ 1024 = true))) ?_; omega) | (unfold inI64; omega) | (constructor <;> omega) | (simp only [inI64, List.length_cons, List.length_append, List.length_nil, List.length_set] at *; omega) | decide | (unfold inI64; decide)); conv => whnf)
    | omega | decide | assumption)
  refine .ret _ ?_
  conv => whnf
  exact ⟨[(1000001, lcell l), (1000002, gcell g)], ⟨rfl, rfl⟩, Res.le_refl _, Res.le_refl _, trivial⟩
-- slices.IndexFunc of panels, by a group
theorem z193 (p : List Pnl) (hp : p.length ≤ 2^40) (l : List Mrk) (g : List Int) (hg : 0 < g.length) (h0 : 0 ≤ g.getD 0 0) (h1 : (g.getD 0 0).toNat < l.length) :
    FSpec Tryz.prog 27 [.d (pnls p), .fn 28 [.ptr 1000001 0, .ptr 1000002 0]] [(1000001, lcell l), (1000002, gcell g)] (fun x r => x = .d (.int .i64 (panIx p (panG l g))) ∧ r = [(1000001, lcell l), (1000002, gcell g)]) := by
  refine spec_of hT (C := []) Tryz.func27 rfl Tryz.call27 rfl rfl rfl ?_
  conv => whnf
  refine LoopX.rule hT (C := []) (ι := Nat) (fun i => i ≤ p.length ∧ ∀ j, j < i → ((p.getD j pn0).key == panG l g) = false) (fun i => mkSt [(0, .d (pnls p)), (1, .fn 28 [.ptr 1000001 0, .ptr 1000002 0]), (7, .d (.int .i64 p.length)), (8, .d (.int .i64 i))] [(1000001, lcell l), (1000002, gcell g)]) (fun i => p.length - i) 0 ⟨by omega, by omega⟩ (by (refine Entails.mk' [(1000001, 1000001), (1000002, 1000002)] rfl rfl ?_ ?_ <;> repeat' (first | exact True.intro | exact SV.le_refl _ | exact Res.le_refl _ | exact SV.le_int (by omega) | exact SV.le_any _ | refine And.intro ?_ ?_)); done) ?_
  rintro i ⟨p1, p2⟩
  have e1 : (i : Int).toNat = i := Int.toNat_natCast i
  conv => whnf
  repeat' (first
    | (refine CallX.of (z194 l g hg h0 h1 (p.getD (i : Int).toNat pn0)) [(1000001, 1000001), (1000002, 1000002)] rfl ⟨SV.le_refl _, SV.le_refl _, SV.le_refl _, trivial⟩ ⟨Res.le_refl _, Res.le_refl _, trivial⟩ rfl rfl ?_; rintro x rout ⟨rfl, rfl⟩; refine ⟨rfl, ?_⟩; conv => whnf)
    | (refine br_intro (fun hb => ?_) (fun hb => ?_) <;> (try simp only [decide_eq_true_eq, decide_eq_false_iff_not, Bool.not_eq_true', Bool.not_eq_false', Bool.and_eq_true, Bool.or_eq_true, beq_iff_eq, not_and, Int.not_le, Int.not_lt, Int.toNat_natCast, beq_eq_false_iff_ne, ne_eq, eq_self, not_true_eq_false, not_false_eq_true] at hb) <;> (conv => whnf))
    | omega
    | (refine And.intro ?_ ?_; ((try dsimp only); first | omega | (refine ⟨by omega, by omega, Int.le_trans (Int.mul_le_mul_of_nonneg_right (Int.ofNat_le.2 (Nat.le_of_ble_eq_true (rfl : Nat.ble _ 1024 = true))) (by omega)) (by omega), by omega⟩) | (refine Nat.le_trans (Nat.mul_le_mul_left _ (Nat.le_of_ble_eq_true (rfl : Nat.ble _ 1024 = true))) ?_; omega) | (unfold inI64; omega) | (constructor <;> omega) | (simp only [inI64, List.length_cons, List.length_append, List.length_nil, List.length_set] at *; omega) | decide | (unfold inI64; decide)); conv => whnf)
    | omega | decide | assumption)
  · refine .ret _ ?_
    conv => whnf
    refine ⟨[(1000001, lcell l), (1000002, gcell g)], ⟨?_, rfl⟩, Res.le_refl _, Res.le_refl _, trivial⟩
    conv => lhs; whnf
    congr 2
    exact (ixF_hit (by omega) p2 (by simpa using hb)).symm
  · exact ⟨i + 1, ⟨by omega, all_step p2 (by simpa using hb)⟩, by omega, (by (refine Entails.mk' [(1000001, 1000001), (1000002, 1000002)] rfl rfl ?_ ?_ <;> repeat' (first | exact True.intro | exact SV.le_refl _ | exact Res.le_refl _ | exact SV.le_int (by omega) | exact SV.le_any _ | refine And.intro ?_ ?_)); done)⟩
  · refine .ret _ ?_
    conv => whnf
    refine ⟨[(1000001, lcell l), (1000002, gcell g)], ⟨?_, rfl⟩, Res.le_refl _, Res.le_refl _, trivial⟩
    conv => lhs; whnf
    congr 2
    have : i = p.length := by omega
    subst this
    exact (ixF_none p2).symm
end Go.Proofs.YtnkdlkgannnfhaaGreat
set_option maxRecDepth 20000
namespace Go.Proofs.YtnkdlkgannnfhaaGreat
open Go Go.Eng
def cosE (q : List Rep) (p : List Pnl) (r : Rul) (l : List Mrk) : Int := firstE [rulE r, repsE q, mrksPE p l]
theorem cosE_zero {q : List Rep} {p : List Pnl} {r : Rul} {l : List Mrk} (h : cosE q p r l = 0) : rulE r = 0 ∧ repsE q = 0 ∧ pansE p = 0 ∧ onPE p l = 0 := by
  unfold cosE mrksPE at h
  simp only [firstE] at h
  grind
noncomputable abbrev GI (r : Rul) (l : List Mrk) : List (List Int) := grI r l l.length
noncomputable def cosV (q : List Rep) (p : List Pnl) (r : Rul) (l : List Mrk) : SV := if cosE q p r l = 0 then .tup [.d (ints (outL q r l (GI r l) p p.length)), .d (.int .i64 (allN q r l (GI r l) p p.length)), .d (.int .i64 0)] else .tup [.d .nilsl, .d (.int .i64 0), .d (.int .i64 (cosE q p r l))]
-- mark.Estimate
set_option maxHeartbeats 4000000 in
theorem z85 (p : List Pnl) (r : Rul) (q : List Rep) (l : List Mrk) (hp : pnOk p) (hq : reOk q) (hk : mkOk l) (hl12 : l.length ≤ 12) : FSpec Tryz.prog 9 [.d (pnls p), .agg ((ruF r).map .d), .d (reps q), .d (mrks l)] [] (fun x r' => x = cosV q p r l ∧ r' = []) := by
  have h105 := s105 [rulE r, repsE q, mrksPE p l] (by simp)
  unfold cosV
  by_cases hz : ¬ (cosE q p r l = 0)
  · rw [if_neg hz]
    rw [show firstE [rulE r, repsE q, mrksPE p l] = cosE q p r l from rfl] at h105
    generalize cosE q p r l = e at h105 hz
    refine spec_of hT (C := []) Tryz.func9 rfl Tryz.call9 rfl rfl rfl ?_
    conv => whnf
    repeat' (first
      | (refine CallX.exact (s102 r) rfl rfl ?_; rotate_right; conv => whnf)
      | (refine CallX.exact (s100 p l hp hk) rfl rfl ?_; rotate_right; conv => whnf)
      | (refine CallX.exact (z94 q hq) rfl rfl ?_; rotate_right; conv => whnf)
      | (refine CallX.pure h105 ⟨SV.le_lit (by rfl) (by rfl), trivial⟩ rfl ?_; conv => whnf)
      | (refine br_intro (fun hb => ?_) (fun hb => ?_) <;> (try simp only [decide_eq_true_eq, decide_eq_false_iff_not, Bool.not_eq_true', Bool.not_eq_false', Bool.and_eq_true, Bool.or_eq_true, beq_iff_eq, not_and, Int.not_le, Int.not_lt, Int.toNat_natCast, beq_eq_false_iff_ne, ne_eq, eq_self, not_true_eq_false, not_false_eq_true] at hb) <;> (conv => whnf))
      | (refine RegX.rule (id := 1) hT rfl [] [(0, []), (2, [0]), (4, [0, 2]), (5, [0, 2, 4]), (1, [2, 4, 5]), (3, [4, 5]), (6, []), (7, []), (8, []), (9, [])] (by decide +kernel) ?_; conv => whnf)
      | (refine RegX.rule (id := 16) hT rfl [] [(0, []), (1, [0]), (2, []), (3, []), (4, [0, 1, 2, 3]), (5, [0, 1, 2, 3, 4]), (6, [0, 1, 2, 3, 4]), (7, [0, 1, 2, 3, 4, 5, 6]), (8, [0, 1, 2, 3, 4, 5, 6, 7]), (9, [0, 1, 2, 3, 4, 5, 6]), (10, [0, 1, 2, 3, 4]), (11, [0, 1, 2, 3, 4]), (12, [0, 1, 2, 3]), (13, []), (14, []), (15, [])] (by decide +kernel) ?_; conv => whnf)
      | (refine RegX.rule (id := 22) hT rfl [] [(0, []), (1, [0]), (2, [0, 1]), (3, [0, 1, 2]), (4, [0, 1]), (5, [0, 1]), (6, [0, 1, 2, 3, 4, 5]), (7, [0, 1, 2, 3, 4, 5, 6]), (8, [0, 1, 2, 3, 4, 5]), (9, [0, 1, 2, 3, 4, 5]), (10, [0, 1, 2, 3, 4, 5]), (11, [0, 1]), (12, []), (13, [])] (by decide +kernel) ?_; conv => whnf)
      | omega
      | (refine And.intro ?_ ?_; ((try dsimp only); first | omega | (refine ⟨by omega, by omega, Int.le_trans (Int.mul_le_mul_of_nonneg_right (Int.ofNat_le.2 (Nat.le_of_ble_eq_true (rfl : Nat.ble _ 1024 = true))) (by omega)) (by omega), by omega⟩) | (refine Nat.le_trans (Nat.mul_le_mul_left _ (Nat.le_of_ble_eq_true (rfl : Nat.ble _ 1024 = true))) ?_; omega) | (unfold inI64; omega) | (constructor <;> omega) | (simp only [inI64, List.length_cons, List.length_append, List.length_nil, List.length_set] at *; omega) | decide | (unfold inI64; decide)); conv => whnf)
      | omega | decide | assumption)
    refine .ret _ ?_
    conv => whnf
    refine ⟨[], ⟨congrArg SV.tup ?_, rfl⟩, trivial⟩
    repeat' (refine cons_eq ?_ ?_)
    all_goals (conv => lhs; whnf)
    all_goals try (with_reducible rfl)
    all_goals rfl
  have hz : cosE q p r l = 0 := Decidable.not_not.1 hz
  rw [if_pos hz]
  rw [show firstE [rulE r, repsE q, mrksPE p l] = 0 from hz] at h105
  obtain ⟨hz1, hz2, hz3, hz4⟩ := cosE_zero hz
  have hr := rulE_bd hz1
  have hmB := onPE_mBd hz4
  have h191 := z191 r l hr hl12 hmB.2
  have hp40 := (panE_pr hz3).1
  have hGl := grI_len r l l.length
  have hGn : (GI r l).length ≤ 12 := Nat.le_trans hGl hl12
  have hGa := grI_all r l l.length
  have hG12 : ∀ g ∈ GI r l, g.length ≤ 12 := fun g hg => Nat.le_trans (hGa g hg).1 hl12
  have hest := fun key => est_bd hz2 hr l hG12 key
  have hps : ∀ j, j < p.length → 0 ≤ outS q r l (GI r l) p j ∧ outS q r l (GI r l) p j ≤ 1000000 := fun j hj => by
    have h1 := hest (p.getD j pn0).key (GI r l).length (Nat.le_refl _)
    have h2 := (panE_pr hz3).2 j hj
    unfold outS
    omega
  have hall := all_bd hps
  refine spec_of hT (C := []) Tryz.func9 rfl Tryz.call9 rfl rfl rfl ?_
  conv => whnf
  repeat' (first
    | (refine CallX.exact (s102 r) rfl rfl ?_; rotate_right; conv => whnf)
    | (refine CallX.exact (s100 p l hp hk) rfl rfl ?_; rotate_right; conv => whnf)
    | (refine CallX.exact (z94 q hq) rfl rfl ?_; rotate_right; conv => whnf)
    | (refine CallX.pure h105 ⟨SV.le_lit (by rfl) (by rfl), trivial⟩ rfl ?_; conv => whnf)
    | (refine CallX.exact (h191) rfl rfl ?_; rotate_right; conv => whnf)
    | (refine br_intro (fun hb => ?_) (fun hb => ?_) <;> (try simp only [decide_eq_true_eq, decide_eq_false_iff_not, Bool.not_eq_true', Bool.not_eq_false', Bool.and_eq_true, Bool.or_eq_true, beq_iff_eq, not_and, Int.not_le, Int.not_lt, Int.toNat_natCast, beq_eq_false_iff_ne, ne_eq, eq_self, not_true_eq_false, not_false_eq_true] at hb) <;> (conv => whnf))
    | (refine RegX.rule (id := 1) hT rfl [] [(0, []), (2, [0]), (4, [0, 2]), (5, [0, 2, 4]), (1, [2, 4, 5]), (3, [4, 5]), (6, []), (7, []), (8, []), (9, [])] (by decide +kernel) ?_; conv => whnf)
    | (refine RegX.rule (id := 16) hT rfl [] [(0, []), (1, [0]), (2, []), (3, []), (4, [0, 1, 2, 3]), (5, [0, 1, 2, 3, 4]), (6, [0, 1, 2, 3, 4]), (7, [0, 1, 2, 3, 4, 5, 6]), (8, [0, 1, 2, 3, 4, 5, 6, 7]), (9, [0, 1, 2, 3, 4, 5, 6]), (10, [0, 1, 2, 3, 4]), (11, [0, 1, 2, 3, 4]), (12, [0, 1, 2, 3]), (13, []), (14, []), (15, [])] (by decide +kernel) ?_; conv => whnf)
    | (refine RegX.rule (id := 22) hT rfl [] [(0, []), (1, [0]), (2, [0, 1]), (3, [0, 1, 2]), (4, [0, 1]), (5, [0, 1]), (6, [0, 1, 2, 3, 4, 5]), (7, [0, 1, 2, 3, 4, 5, 6]), (8, [0, 1, 2, 3, 4, 5]), (9, [0, 1, 2, 3, 4, 5]), (10, [0, 1, 2, 3, 4, 5]), (11, [0, 1]), (12, []), (13, [])] (by decide +kernel) ?_; conv => whnf)
    | omega
    | (refine And.intro ?_ ?_; ((try dsimp only); first | omega | (refine ⟨by omega, by omega, Int.le_trans (Int.mul_le_mul_of_nonneg_right (Int.ofNat_le.2 (Nat.le_of_ble_eq_true (rfl : Nat.ble _ 1024 = true))) (by omega)) (by omega), by omega⟩) | (refine Nat.le_trans (Nat.mul_le_mul_left _ (Nat.le_of_ble_eq_true (rfl : Nat.ble _ 1024 = true))) ?_; omega) | (unfold inI64; omega) | (constructor <;> omega) | (simp only [inI64, List.length_cons, List.length_append, List.length_nil, List.length_set] at *; omega) | decide | (unfold inI64; decide)); conv => whnf)
    | omega | decide | assumption)
  refine LoopX.rule hT (C := []) (ι := Nat × List Int) (fun (t, o) => t ≤ (GI r l).length ∧ o.length = p.length ∧ ∀ j, j < p.length → o.getD j 0 = estN q r l (GI r l) (p.getD j pn0).key t)
    (fun (t, o) => mkSt [(0, .d (pnls p)), (2, .d (reps q)), (5, .ptr 5 0), (7, .ptr 7 0), (12, .buf 12), (40, .d (grs (GI r l))), (41, .d (.int .i64 (GI r l).length)), (42, .d (.int .i64 t))] [(5, .cells 29 ((ruF r).map .d)), (7, lcell l), (12, seqB 3 1 iF 0 o)])
    (fun (t, _) => (GI r l).length - t) (0, List.replicate p.length 0) ⟨by simp, by simp, fun j hj => ?_⟩ ?_ ?_
  · rw [List.getD_eq_getElem?_getD]; simp [hj, estN]
  · refine Entails.mk' [(5, 5), (7, 7), (12, 37)] rfl rfl ⟨SV.le_refl _, SV.le_refl _, SV.le_refl _, SV.le_refl _, SV.le_refl _, SV.le_refl _, SV.le_refl _, SV.le_refl _, trivial⟩ ⟨Res.le_refl _, Res.le_refl _, Res.le_buf (by simp) (fun i hi => ?_), trivial⟩
    have hi' : i < p.length := by simpa using hi
    simp only [rowF]
    rw [List.getD_eq_getElem?_getD]; simp [hi']; rfl
  rintro ⟨t, o⟩ ⟨t1, t2, t3⟩
  have t1 : t ≤ (GI r l).length := t1
  have t2 : o.length = p.length := t2
  have e1 : (t : Int).toNat = t := Int.toNat_natCast t
  by_cases ht : t < (GI r l).length
  · have hgm : (GI r l).getD t [] ∈ GI r l := getD_mem ht
    obtain ⟨g1, g2, g3⟩ := hGa _ hgm
    have hes : ∀ key, estN q r l (GI r l) key (t + 1) = if panG l ((GI r l).getD t []) = key then estN q r l (GI r l) key t + amtI q r l ((GI r l).getD t []) else estN q r l (GI r l) key t := fun _ => rfl
    generalize hg : (GI r l).getD t [] = g at g1 g2 g3 hes hgm
    have hg' : (GI r l).getD (t : Int).toNat [] = g := hg
    have hmost := most_bd hz2 l g
    have hpg0 := g3 0 g2
    have hix0 : 0 ≤ panIx p (panG l g) := onPE_pan hz4 _ hpg0.2
    have hix1 := panIx_lt p (panG l g)
    have hhit := panIx_hit hix0
    have hamt := amt_bd hz2 hr l (hG12 _ hgm)
    have hamt2 : 0 ≤ mostN q l g g.length + (r.part * (sumN q l g g.length - mostN q l g g.length)).tdiv 1000 ∧ mostN q l g g.length + (r.part * (sumN q l g g.length - mostN q l g g.length)).tdiv 1000 ≤ 13000000 := hamt
    have hprod := prod_bd (a := r.part) (b := sumN q l g g.length - mostN q l g g.length) (by unfold rBd at hr; omega) (by unfold rBd at hr; omega) (by have := hmost g.length; omega)
    have hmg := hmost g.length
    have hok : 0 ≤ o.getD (panIx p (panG l g)).toNat 0 ∧ o.getD (panIx p (panG l g)).toNat 0 ≤ 13000000 * t := by
      rw [t3 _ (by omega)]; exact hest _ t (by omega)
    have h193 := z193 p hp.1 l g g2 hpg0.1 hpg0.2
    conv => whnf
    repeat' (first
      | (refine br_intro (fun hb => ?_) (fun hb => ?_) <;> (try simp only [decide_eq_true_eq, decide_eq_false_iff_not, Bool.not_eq_true', Bool.not_eq_false', Bool.and_eq_true, Bool.or_eq_true, beq_iff_eq, not_and, Int.not_le, Int.not_lt, Int.toNat_natCast, beq_eq_false_iff_ne, ne_eq, eq_self, not_true_eq_false, not_false_eq_true] at hb) <;> (conv => whnf))
      | (refine RegX.rule (id := 1) hT rfl [] [(0, []), (2, [0]), (4, [0, 2]), (5, [0, 2, 4]), (1, [2, 4, 5]), (3, [4, 5]), (6, []), (7, []), (8, []), (9, [])] (by decide +kernel) ?_; conv => whnf)
      | (refine RegX.rule (id := 16) hT rfl [] [(0, []), (1, [0]), (2, []), (3, []), (4, [0, 1, 2, 3]), (5, [0, 1, 2, 3, 4]), (6, [0, 1, 2, 3, 4]), (7, [0, 1, 2, 3, 4, 5, 6]), (8, [0, 1, 2, 3, 4, 5, 6, 7]), (9, [0, 1, 2, 3, 4, 5, 6]), (10, [0, 1, 2, 3, 4]), (11, [0, 1, 2, 3, 4]), (12, [0, 1, 2, 3]), (13, []), (14, []), (15, [])] (by decide +kernel) ?_; conv => whnf)
      | (refine RegX.rule (id := 22) hT rfl [] [(0, []), (1, [0]), (2, [0, 1]), (3, [0, 1, 2]), (4, [0, 1]), (5, [0, 1]), (6, [0, 1, 2, 3, 4, 5]), (7, [0, 1, 2, 3, 4, 5, 6]), (8, [0, 1, 2, 3, 4, 5]), (9, [0, 1, 2, 3, 4, 5]), (10, [0, 1, 2, 3, 4, 5]), (11, [0, 1]), (12, []), (13, [])] (by decide +kernel) ?_; conv => whnf)
      | omega
      | (refine And.intro ?_ ?_; ((try dsimp only); first | omega | (refine ⟨by omega, by omega, Int.le_trans (Int.mul_le_mul_of_nonneg_right (Int.ofNat_le.2 (Nat.le_of_ble_eq_true (rfl : Nat.ble _ 1024 = true))) (by omega)) (by omega), by omega⟩) | (refine Nat.le_trans (Nat.mul_le_mul_left _ (Nat.le_of_ble_eq_true (rfl : Nat.ble _ 1024 = true))) ?_; omega) | (unfold inI64; omega) | (constructor <;> omega) | (simp only [inI64, List.length_cons, List.length_append, List.length_nil, List.length_set] at *; omega) | decide | (unfold inI64; decide)); conv => whnf)
      | omega | decide | assumption)
    refine LoopX.rule hT (C := []) (ι := Nat) (fun i => i ≤ g.length) (fun i => mkSt [(0, .d (pnls p)), (2, .d (reps q)), (5, .ptr 5 0), (7, .ptr 7 0), (12, .buf 12), (14, .ptr 14 0), (15, .d (.int .i64 (mostN q l g i))), (16, .d (.int .i64 (sumN q l g i))), (40, .d (grs (GI r l))), (41, .d (.int .i64 (GI r l).length)), (42, .d (.int .i64 t)), (46, .d (ints g)), (47, .d (.int .i64 g.length)), (48, .d (.int .i64 i))]
      [(5, .cells 29 ((ruF r).map .d)), (7, lcell l), (12, seqB 3 1 iF 0 o), (14, gcell g)]) (fun i => g.length - i) 0 (by omega) ?_ ?_
    · subst hg
      exact Entails.mk' [(5, 5), (7, 7), (12, 12), (14, 14)] rfl rfl ⟨SV.le_refl _, SV.le_refl _, SV.le_refl _, SV.le_refl _, SV.le_refl _, SV.le_refl _, SV.le_refl _, SV.le_refl _, SV.le_refl _, SV.le_refl _, SV.le_refl _, SV.le_refl _, SV.le_refl _, SV.le_refl _, trivial⟩ ⟨Res.le_refl _, Res.le_refl _, Res.le_refl _, Res.le_refl _, trivial⟩
    rintro i i1
    have e2 : (i : Int).toNat = i := Int.toNat_natCast i
    have hmi := hmost i
    have hms : mostN q l g (i + 1) = max (mostN q l g i) (price q (l.getD (g.getD i 0).toNat mk0)) := rfl
    have hss : sumN q l g (i + 1) = sumN q l g i + price q (l.getD (g.getD i 0).toNat mk0) := rfl
    have hgi := fun (h : i < g.length) => g3 i h
    have hpb := price_bd hz2 (l.getD (g.getD (i : Int).toNat 0).toNat mk0)
    by_cases hi : i < g.length
    · have hgi := hgi hi
      have hgi2 : 0 ≤ g.getD (i : Int).toNat 0 ∧ g.getD (i : Int).toNat 0 < (l.length : Int) := ⟨hgi.1, by show g.getD i 0 < _; omega⟩
      conv => whnf
      repeat' (first
        | (refine CallX.exact (z192 q (l.getD (g.getD (i : Int).toNat 0).toNat mk0) hq.1) rfl rfl ?_; rotate_right; conv => whnf)
        | (refine br_intro (fun hb => ?_) (fun hb => ?_) <;> (try simp only [decide_eq_true_eq, decide_eq_false_iff_not, Bool.not_eq_true', Bool.not_eq_false', Bool.and_eq_true, Bool.or_eq_true, beq_iff_eq, not_and, Int.not_le, Int.not_lt, Int.toNat_natCast, beq_eq_false_iff_ne, ne_eq, eq_self, not_true_eq_false, not_false_eq_true] at hb) <;> (conv => whnf))
        | (refine RegX.rule (id := 1) hT rfl [] [(0, []), (2, [0]), (4, [0, 2]), (5, [0, 2, 4]), (1, [2, 4, 5]), (3, [4, 5]), (6, []), (7, []), (8, []), (9, [])] (by decide +kernel) ?_; conv => whnf)
        | (refine RegX.rule (id := 16) hT rfl [] [(0, []), (1, [0]), (2, []), (3, []), (4, [0, 1, 2, 3]), (5, [0, 1, 2, 3, 4]), (6, [0, 1, 2, 3, 4]), (7, [0, 1, 2, 3, 4, 5, 6]), (8, [0, 1, 2, 3, 4, 5, 6, 7]), (9, [0, 1, 2, 3, 4, 5, 6]), (10, [0, 1, 2, 3, 4]), (11, [0, 1, 2, 3, 4]), (12, [0, 1, 2, 3]), (13, []), (14, []), (15, [])] (by decide +kernel) ?_; conv => whnf)
        | (refine RegX.rule (id := 22) hT rfl [] [(0, []), (1, [0]), (2, [0, 1]), (3, [0, 1, 2]), (4, [0, 1]), (5, [0, 1]), (6, [0, 1, 2, 3, 4, 5]), (7, [0, 1, 2, 3, 4, 5, 6]), (8, [0, 1, 2, 3, 4, 5]), (9, [0, 1, 2, 3, 4, 5]), (10, [0, 1, 2, 3, 4, 5]), (11, [0, 1]), (12, []), (13, [])] (by decide +kernel) ?_; conv => whnf)
        | omega
        | (refine And.intro ?_ ?_; ((try dsimp only); first | omega | (refine ⟨by omega, by omega, Int.le_trans (Int.mul_le_mul_of_nonneg_right (Int.ofNat_le.2 (Nat.le_of_ble_eq_true (rfl : Nat.ble _ 1024 = true))) (by omega)) (by omega), by omega⟩) | (refine Nat.le_trans (Nat.mul_le_mul_left _ (Nat.le_of_ble_eq_true (rfl : Nat.ble _ 1024 = true))) ?_; omega) | (unfold inI64; omega) | (constructor <;> omega) | (simp only [inI64, List.length_cons, List.length_append, List.length_nil, List.length_set] at *; omega) | decide | (unfold inI64; decide)); conv => whnf)
        | omega | decide | assumption)
      refine ⟨i + 1, by omega, by omega, ?_⟩
      rw [hms, hss]
      exact Entails.mk' [(5, 5), (7, 7), (12, 12), (14, 14)] rfl rfl ⟨SV.le_refl _, SV.le_refl _, SV.le_refl _, SV.le_refl _, SV.le_refl _, SV.le_refl _, SV.le_refl _, SV.le_refl _, SV.le_refl _, SV.le_refl _, SV.le_refl _, SV.le_refl _, SV.le_refl _, SV.le_refl _, trivial⟩ ⟨Res.le_refl _, Res.le_refl _, Res.le_refl _, Res.le_refl _, trivial⟩
    · obtain rfl : i = g.length := by omega
      conv => whnf
      repeat' (first
        | (refine CallX.of h193 [(1000001, 7), (1000002, 14)] rfl ⟨SV.le_refl _, SV.le_refl _, trivial⟩ ⟨Res.le_refl _, Res.le_refl _, trivial⟩ rfl rfl ?_; rintro x rout ⟨rfl, rfl⟩; refine ⟨rfl, ?_⟩; conv => whnf)
        | (refine br_intro (fun hb => ?_) (fun hb => ?_) <;> (try simp only [decide_eq_true_eq, decide_eq_false_iff_not, Bool.not_eq_true', Bool.not_eq_false', Bool.and_eq_true, Bool.or_eq_true, beq_iff_eq, not_and, Int.not_le, Int.not_lt, Int.toNat_natCast, beq_eq_false_iff_ne, ne_eq, eq_self, not_true_eq_false, not_false_eq_true] at hb) <;> (conv => whnf))
        | (refine RegX.rule (id := 1) hT rfl [] [(0, []), (2, [0]), (4, [0, 2]), (5, [0, 2, 4]), (1, [2, 4, 5]), (3, [4, 5]), (6, []), (7, []), (8, []), (9, [])] (by decide +kernel) ?_; conv => whnf)
        | (refine RegX.rule (id := 16) hT rfl [] [(0, []), (1, [0]), (2, []), (3, []), (4, [0, 1, 2, 3]), (5, [0, 1, 2, 3, 4]), (6, [0, 1, 2, 3, 4]), (7, [0, 1, 2, 3, 4, 5, 6]), (8, [0, 1, 2, 3, 4, 5, 6, 7]), (9, [0, 1, 2, 3, 4, 5, 6]), (10, [0, 1, 2, 3, 4]), (11, [0, 1, 2, 3, 4]), (12, [0, 1, 2, 3]), (13, []), (14, []), (15, [])] (by decide +kernel) ?_; conv => whnf)
        | (refine RegX.rule (id := 22) hT rfl [] [(0, []), (1, [0]), (2, [0, 1]), (3, [0, 1, 2]), (4, [0, 1]), (5, [0, 1]), (6, [0, 1, 2, 3, 4, 5]), (7, [0, 1, 2, 3, 4, 5, 6]), (8, [0, 1, 2, 3, 4, 5]), (9, [0, 1, 2, 3, 4, 5]), (10, [0, 1, 2, 3, 4, 5]), (11, [0, 1]), (12, []), (13, [])] (by decide +kernel) ?_; conv => whnf)
        | omega
        | (refine And.intro ?_ ?_; ((try dsimp only); first | omega | (refine ⟨by omega, by omega, Int.le_trans (Int.mul_le_mul_of_nonneg_right (Int.ofNat_le.2 (Nat.le_of_ble_eq_true (rfl : Nat.ble _ 1024 = true))) (by omega)) (by omega), by omega⟩) | (refine Nat.le_trans (Nat.mul_le_mul_left _ (Nat.le_of_ble_eq_true (rfl : Nat.ble _ 1024 = true))) ?_; omega) | (unfold inI64; omega) | (constructor <;> omega) | (simp only [inI64, List.length_cons, List.length_append, List.length_nil, List.length_set] at *; omega) | decide | (unfold inI64; decide)); conv => whnf)
        | omega | decide | assumption)
      refine ⟨(t + 1, o.set (panIx p (panG l g)).toNat (o.getD (panIx p (panG l g)).toNat 0 + amtI q r l g)), ⟨by omega, by simp [t2], fun j hj => ?_⟩, (show (GI r l).length - (t + 1) < (GI r l).length - t by omega), Entails.mk' [(5, 5), (7, 7), (12, 12)] rfl rfl ⟨SV.le_refl _, SV.le_refl _, SV.le_refl _, SV.le_refl _, SV.le_refl _, SV.le_refl _, SV.le_refl _, SV.le_refl _, trivial⟩ ⟨Res.le_refl _, Res.le_refl _, Res.le_upd (fun _ => o.getD (panIx p (panG l g)).toNat 0 + amtI q r l g) (fun _ => rfl), trivial⟩⟩
      rw [hes, List.getD_eq_getElem?_getD, List.getElem?_set]
      by_cases hj2 : (panIx p (panG l g)).toNat = j
      · rw [if_pos hj2, if_pos (by omega), if_pos (by rw [← hj2]; exact hhit.symm)]
        rw [hj2, t3 j hj]; rfl
      · rw [if_neg hj2, if_neg (fun e => hj2 (pan_uniq hz3 (by omega) hj (by rw [hhit]; exact e))), ← List.getD_eq_getElem?_getD, t3 j hj]
  · obtain rfl : t = (GI r l).length := by omega
    conv => whnf
    repeat' (first
      | (refine br_intro (fun hb => ?_) (fun hb => ?_) <;> (try simp only [decide_eq_true_eq, decide_eq_false_iff_not, Bool.not_eq_true', Bool.not_eq_false', Bool.and_eq_true, Bool.or_eq_true, beq_iff_eq, not_and, Int.not_le, Int.not_lt, Int.toNat_natCast, beq_eq_false_iff_ne, ne_eq, eq_self, not_true_eq_false, not_false_eq_true] at hb) <;> (conv => whnf))
      | (refine RegX.rule (id := 1) hT rfl [] [(0, []), (2, [0]), (4, [0, 2]), (5, [0, 2, 4]), (1, [2, 4, 5]), (3, [4, 5]), (6, []), (7, []), (8, []), (9, [])] (by decide +kernel) ?_; conv => whnf)
      | (refine RegX.rule (id := 16) hT rfl [] [(0, []), (1, [0]), (2, []), (3, []), (4, [0, 1, 2, 3]), (5, [0, 1, 2, 3, 4]), (6, [0, 1, 2, 3, 4]), (7, [0, 1, 2, 3, 4, 5, 6]), (8, [0, 1, 2, 3, 4, 5, 6, 7]), (9, [0, 1, 2, 3, 4, 5, 6]), (10, [0, 1, 2, 3, 4]), (11, [0, 1, 2, 3, 4]), (12, [0, 1, 2, 3]), (13, []), (14, []), (15, [])] (by decide +kernel) ?_; conv => whnf)
      | (refine RegX.rule (id := 22) hT rfl [] [(0, []), (1, [0]), (2, [0, 1]), (3, [0, 1, 2]), (4, [0, 1]), (5, [0, 1]), (6, [0, 1, 2, 3, 4, 5]), (7, [0, 1, 2, 3, 4, 5, 6]), (8, [0, 1, 2, 3, 4, 5]), (9, [0, 1, 2, 3, 4, 5]), (10, [0, 1, 2, 3, 4, 5]), (11, [0, 1]), (12, []), (13, [])] (by decide +kernel) ?_; conv => whnf)
      | omega
      | (refine And.intro ?_ ?_; ((try dsimp only); first | omega | (refine ⟨by omega, by omega, Int.le_trans (Int.mul_le_mul_of_nonneg_right (Int.ofNat_le.2 (Nat.le_of_ble_eq_true (rfl : Nat.ble _ 1024 = true))) (by omega)) (by omega), by omega⟩) | (refine Nat.le_trans (Nat.mul_le_mul_left _ (Nat.le_of_ble_eq_true (rfl : Nat.ble _ 1024 = true))) ?_; omega) | (unfold inI64; omega) | (constructor <;> omega) | (simp only [inI64, List.length_cons, List.length_append, List.length_nil, List.length_set] at *; omega) | decide | (unfold inI64; decide)); conv => whnf)
      | omega | decide | assumption)
    refine LoopX.rule hT (C := []) (ι := Nat × List Int) (fun (k, o) => k ≤ p.length ∧ o.length = p.length ∧ ∀ j, j < p.length → o.getD j 0 = if j < k then outS q r l (GI r l) p j else estN q r l (GI r l) (p.getD j pn0).key (GI r l).length)
      (fun (k, o) => mkSt [(0, .d (pnls p)), (12, .buf 12), (21, .d (.int .i64 (allN q r l (GI r l) p k))), (85, .d (.int .i64 p.length)), (86, .d (.int .i64 k))] [(12, seqB 3 1 iF 0 o)]) (fun (k, _) => p.length - k) (0, o) ⟨by simp, t2, fun j hj => ?_⟩ ?_ ?_
    · rw [if_neg (by omega)]; exact t3 j hj
    · exact Entails.mk' [(12, 12)] rfl rfl ⟨SV.le_refl _, SV.le_refl _, SV.le_refl _, SV.le_int (by omega), SV.le_refl _, trivial⟩ ⟨Res.le_refl _, trivial⟩
    rintro ⟨k, o⟩ ⟨k1, k2, k3⟩
    have k1 : k ≤ p.length := k1
    have k2 : o.length = p.length := k2
    have e3 : (k : Int).toNat = k := Int.toNat_natCast k
    have has : allN q r l (GI r l) p (k + 1) = allN q r l (GI r l) p k + outS q r l (GI r l) p k := rfl
    have hak := hall k k1
    by_cases hk2 : k < p.length
    · have hok : o.getD k 0 = estN q r l (GI r l) (p.getD k pn0).key (GI r l).length := by rw [k3 k hk2, if_neg (by omega)]
      have hos : outS q r l (GI r l) p k = min (o.getD k 0) (p.getD k pn0).pr := by rw [hok]; rfl
      have hpk := hps k hk2
      rw [hos] at hpk
      have hgs : (o.set k (min (o.getD k 0) (p.getD k pn0).pr)).getD k 0 = min (o.getD k 0) (p.getD k pn0).pr := by
        rw [List.getD_eq_getElem?_getD, List.getElem?_set_self (by omega)]; rfl
      conv => whnf
      repeat' (first
        | (refine br_intro (fun hb => ?_) (fun hb => ?_) <;> (try simp only [decide_eq_true_eq, decide_eq_false_iff_not, Bool.not_eq_true', Bool.not_eq_false', Bool.and_eq_true, Bool.or_eq_true, beq_iff_eq, not_and, Int.not_le, Int.not_lt, Int.toNat_natCast, beq_eq_false_iff_ne, ne_eq, eq_self, not_true_eq_false, not_false_eq_true] at hb) <;> (conv => whnf))
        | (refine RegX.rule (id := 1) hT rfl [] [(0, []), (2, [0]), (4, [0, 2]), (5, [0, 2, 4]), (1, [2, 4, 5]), (3, [4, 5]), (6, []), (7, []), (8, []), (9, [])] (by decide +kernel) ?_; conv => whnf)
        | (refine RegX.rule (id := 16) hT rfl [] [(0, []), (1, [0]), (2, []), (3, []), (4, [0, 1, 2, 3]), (5, [0, 1, 2, 3, 4]), (6, [0, 1, 2, 3, 4]), (7, [0, 1, 2, 3, 4, 5, 6]), (8, [0, 1, 2, 3, 4, 5, 6, 7]), (9, [0, 1, 2, 3, 4, 5, 6]), (10, [0, 1, 2, 3, 4]), (11, [0, 1, 2, 3, 4]), (12, [0, 1, 2, 3]), (13, []), (14, []), (15, [])] (by decide +kernel) ?_; conv => whnf)
        | (refine RegX.rule (id := 22) hT rfl [] [(0, []), (1, [0]), (2, [0, 1]), (3, [0, 1, 2]), (4, [0, 1]), (5, [0, 1]), (6, [0, 1, 2, 3, 4, 5]), (7, [0, 1, 2, 3, 4, 5, 6]), (8, [0, 1, 2, 3, 4, 5]), (9, [0, 1, 2, 3, 4, 5]), (10, [0, 1, 2, 3, 4, 5]), (11, [0, 1]), (12, []), (13, [])] (by decide +kernel) ?_; conv => whnf)
        | omega
        | (refine And.intro ?_ ?_; ((try dsimp only); first | omega | (refine ⟨by omega, by omega, Int.le_trans (Int.mul_le_mul_of_nonneg_right (Int.ofNat_le.2 (Nat.le_of_ble_eq_true (rfl : Nat.ble _ 1024 = true))) (by omega)) (by omega), by omega⟩) | (refine Nat.le_trans (Nat.mul_le_mul_left _ (Nat.le_of_ble_eq_true (rfl : Nat.ble _ 1024 = true))) ?_; omega) | (unfold inI64; omega) | (constructor <;> omega) | (simp only [inI64, List.length_cons, List.length_append, List.length_nil, List.length_set] at *; omega) | decide | (unfold inI64; decide)); conv => whnf)
        | omega | decide | assumption)
      simp only [e3, Nat.beq_refl, cond_true]
      conv => whnf
      refine ⟨by show inI64 (allN q r l (GI r l) p k + min (o.getD k 0) (p.getD k pn0).pr); unfold inI64; omega, ?_⟩
      conv => whnf
      repeat' (first
        | (refine br_intro (fun hb => ?_) (fun hb => ?_) <;> (try simp only [decide_eq_true_eq, decide_eq_false_iff_not, Bool.not_eq_true', Bool.not_eq_false', Bool.and_eq_true, Bool.or_eq_true, beq_iff_eq, not_and, Int.not_le, Int.not_lt, Int.toNat_natCast, beq_eq_false_iff_ne, ne_eq, eq_self, not_true_eq_false, not_false_eq_true] at hb) <;> (conv => whnf))
        | (refine RegX.rule (id := 1) hT rfl [] [(0, []), (2, [0]), (4, [0, 2]), (5, [0, 2, 4]), (1, [2, 4, 5]), (3, [4, 5]), (6, []), (7, []), (8, []), (9, [])] (by decide +kernel) ?_; conv => whnf)
        | (refine RegX.rule (id := 16) hT rfl [] [(0, []), (1, [0]), (2, []), (3, []), (4, [0, 1, 2, 3]), (5, [0, 1, 2, 3, 4]), (6, [0, 1, 2, 3, 4]), (7, [0, 1, 2, 3, 4, 5, 6]), (8, [0, 1, 2, 3, 4, 5, 6, 7]), (9, [0, 1, 2, 3, 4, 5, 6]), (10, [0, 1, 2, 3, 4]), (11, [0, 1, 2, 3, 4]), (12, [0, 1, 2, 3]), (13, []), (14, []), (15, [])] (by decide +kernel) ?_; conv => whnf)
        | (refine RegX.rule (id := 22) hT rfl [] [(0, []), (1, [0]), (2, [0, 1]), (3, [0, 1, 2]), (4, [0, 1]), (5, [0, 1]), (6, [0, 1, 2, 3, 4, 5]), (7, [0, 1, 2, 3, 4, 5, 6]), (8, [0, 1, 2, 3, 4, 5]), (9, [0, 1, 2, 3, 4, 5]), (10, [0, 1, 2, 3, 4, 5]), (11, [0, 1]), (12, []), (13, [])] (by decide +kernel) ?_; conv => whnf)
        | omega
        | (refine And.intro ?_ ?_; ((try dsimp only); first | omega | (refine ⟨by omega, by omega, Int.le_trans (Int.mul_le_mul_of_nonneg_right (Int.ofNat_le.2 (Nat.le_of_ble_eq_true (rfl : Nat.ble _ 1024 = true))) (by omega)) (by omega), by omega⟩) | (refine Nat.le_trans (Nat.mul_le_mul_left _ (Nat.le_of_ble_eq_true (rfl : Nat.ble _ 1024 = true))) ?_; omega) | (unfold inI64; omega) | (constructor <;> omega) | (simp only [inI64, List.length_cons, List.length_append, List.length_nil, List.length_set] at *; omega) | decide | (unfold inI64; decide)); conv => whnf)
        | omega | decide | assumption)
      refine ⟨(k + 1, o.set k (min (o.getD k 0) (p.getD k pn0).pr)), ⟨by omega, by simp [k2], fun j hj => ?_⟩, (show p.length - (k + 1) < p.length - k by omega), ?_⟩
      · rw [List.getD_eq_getElem?_getD, List.getElem?_set]
        by_cases hj2 : k = j
        · subst hj2
          rw [if_pos rfl, if_pos (by omega), if_pos (by omega), hos]; rfl
        · rw [if_neg hj2, ← List.getD_eq_getElem?_getD, k3 j hj]
          by_cases hj3 : j < k
          · rw [if_pos hj3, if_pos (by omega)]
          · rw [if_neg hj3, if_neg (by omega)]
      · show Entails _ (mkSt [(0, .d (pnls p)), (12, .buf 12), (21, .d (.int .i64 (allN q r l (GI r l) p (k + 1)))), (85, .d (.int .i64 p.length)), (86, .d (.int .i64 ((k + 1 : Nat) : Int)))] [(12, seqB 3 1 iF 0 (o.set k (min (o.getD k 0) (p.getD k pn0).pr)))])
        rw [has, hos]
        exact Entails.mk' [(12, 12)] rfl rfl ⟨SV.le_refl _, SV.le_refl _, SV.le_int (by simp), SV.le_refl _, SV.le_refl _, trivial⟩ ⟨Res.le_upd (fun _ => min (o.getD k 0) (p.getD k pn0).pr) (fun _ => rfl), trivial⟩
    · obtain rfl : k = p.length := by omega
      have ho : o = outL q r l (GI r l) p p.length := eq_of_getD 0 (by rw [outL_len, k2]) (fun j hj => by
        rw [k3 j (by omega), if_pos (by omega), outL_get q r l (GI r l) p p.length j (by omega)])
      subst ho
      conv => whnf
      repeat' (first
        | (refine br_intro (fun hb => ?_) (fun hb => ?_) <;> (try simp only [decide_eq_true_eq, decide_eq_false_iff_not, Bool.not_eq_true', Bool.not_eq_false', Bool.and_eq_true, Bool.or_eq_true, beq_iff_eq, not_and, Int.not_le, Int.not_lt, Int.toNat_natCast, beq_eq_false_iff_ne, ne_eq, eq_self, not_true_eq_false, not_false_eq_true] at hb) <;> (conv => whnf))
        | (refine RegX.rule (id := 1) hT rfl [] [(0, []), (2, [0]), (4, [0, 2]), (5, [0, 2, 4]), (1, [2, 4, 5]), (3, [4, 5]), (6, []), (7, []), (8, []), (9, [])] (by decide +kernel) ?_; conv => whnf)
        | (refine RegX.rule (id := 16) hT rfl [] [(0, []), (1, [0]), (2, []), (3, []), (4, [0, 1, 2, 3]), (5, [0, 1, 2, 3, 4]), (6, [0, 1, 2, 3, 4]), (7, [0, 1, 2, 3, 4, 5, 6]), (8, [0, 1, 2, 3, 4, 5, 6, 7]), (9, [0, 1, 2, 3, 4, 5, 6]), (10, [0, 1, 2, 3, 4]), (11, [0, 1, 2, 3, 4]), (12, [0, 1, 2, 3]), (13, []), (14, []), (15, [])] (by decide +kernel) ?_; conv => whnf)
        | (refine RegX.rule (id := 22) hT rfl [] [(0, []), (1, [0]), (2, [0, 1]), (3, [0, 1, 2]), (4, [0, 1]), (5, [0, 1]), (6, [0, 1, 2, 3, 4, 5]), (7, [0, 1, 2, 3, 4, 5, 6]), (8, [0, 1, 2, 3, 4, 5]), (9, [0, 1, 2, 3, 4, 5]), (10, [0, 1, 2, 3, 4, 5]), (11, [0, 1]), (12, []), (13, [])] (by decide +kernel) ?_; conv => whnf)
        | omega
        | (refine And.intro ?_ ?_; ((try dsimp only); first | omega | (refine ⟨by omega, by omega, Int.le_trans (Int.mul_le_mul_of_nonneg_right (Int.ofNat_le.2 (Nat.le_of_ble_eq_true (rfl : Nat.ble _ 1024 = true))) (by omega)) (by omega), by omega⟩) | (refine Nat.le_trans (Nat.mul_le_mul_left _ (Nat.le_of_ble_eq_true (rfl : Nat.ble _ 1024 = true))) ?_; omega) | (unfold inI64; omega) | (constructor <;> omega) | (simp only [inI64, List.length_cons, List.length_append, List.length_nil, List.length_set] at *; omega) | decide | (unfold inI64; decide)); conv => whnf)
        | omega | decide | assumption)
      refine .freeze _ 12 3 1 _ _ rfl (.weak _ ?_)
      conv => whnf
      exact ⟨_, [], SV.le_refl _, ⟨rfl, rfl⟩, trivial⟩
end Go.Proofs.YtnkdlkgannnfhaaGreat
set_option maxRecDepth 20000
namespace Go.Proofs.YtnkdlkgannnfhaaGreat
open Go Go.Eng
def wsum (h : Nat → Int) (l : List Nat) : Int := (l.map h).sum
theorem wsum_app (h : Nat → Int) (l m : List Nat) : wsum h (l ++ m) = wsum h l + wsum h m := by unfold wsum; rw [List.map_append, List.sum_append]
theorem wsum_or (h : Nat → Int) {p q : Nat → Bool} (hd : ∀ x, p x = true → q x = false) : ∀ l : List Nat, wsum h (l.filter fun x => p x || q x) = wsum h (l.filter p) + wsum h (l.filter q) := by
  intro l
  induction l with
  | nil => rfl
  | cons x l ih =>
    simp only [List.filter_cons]
    cases hp : p x with
    | true =>
      rw [hd x hp]
      simp only [Bool.true_or, if_true, Bool.false_eq_true, if_false]
      unfold wsum at *
      simp only [List.map_cons, List.sum_cons]
      omega
    | false =>
      cases hq : q x with
      | true =>
        simp only [Bool.or_true, if_true, Bool.false_eq_true, if_false]
        unfold wsum at *
        simp only [List.map_cons, List.sum_cons]
        omega
      | false => simpa using ih
theorem grps_sum {n : Nat} {f : Nat → Nat} (h : Nat → Int) : ∀ i, ((grpsF n f i).map (wsum h)).sum = wsum h ((List.range n).filter fun k => decide (f k < i)) := by
  intro i
  induction i with
  | zero =>
    have : (List.range n).filter (fun k => decide (f k < 0)) = [] := by rw [List.filter_eq_nil_iff]; intro x _; simp
    rw [this]; rfl
  | succ i ih =>
    have e : (List.range n).filter (fun k => decide (f k < i + 1)) = (List.range n).filter (fun k => decide (f k < i) || f k == i) := by
      refine List.filter_congr fun k _ => ?_
      rw [Bool.eq_iff_iff]
      simp
      omega
    rw [e, wsum_or h (p := fun k => decide (f k < i)) (q := fun k => f k == i) (fun x hx => by simp at hx ⊢; omega), ← ih, grpsF]
    split
    · rename_i hg
      unfold grpF at hg
      rw [hg]; simp [wsum]
    · rw [List.map_append, List.sum_append]; simp [grpF]
theorem grps_all {n : Nat} {J : Nat → Nat → Bool} {f : Nat → Nat} (hl : isLab n J f) (h : Nat → Int) : ((grpsF n f n).map (wsum h)).sum = wsum h (List.range n) := by
  rw [grps_sum]
  congr 1
  rw [List.filter_eq_self]
  intro k hk
  have hk := List.mem_range.1 hk
  have := hl.le hk
  simp; omega
/-- The marks' prices one by one. -/
def sglN (q : List Rep) (l : List Mrk) : Nat → Int
  | 0 => 0
  | i + 1 => sglN q l i + price q (l.getD i mk0)
theorem sgl_sum (q : List Rep) (l : List Mrk) : ∀ n, wsum (fun k => price q (l.getD k mk0)) (List.range n) = sglN q l n := by
  intro n
  induction n with
  | zero => rfl
  | succ n ih => rw [List.range_succ, wsum_app, ih, sglN]; simp [wsum]
theorem sumN_toI (q : List Rep) (l : List Mrk) (g : List Nat) : ∀ i, i ≤ g.length → sumN q l (toI g) i = wsum (fun k => price q (l.getD k mk0)) (g.take i) := by
  intro i
  induction i with
  | zero => intro _; rfl
  | succ i ih =>
    intro hi
    have eg : g.getD i 0 = g[i] := by rw [List.getD_eq_getElem?_getD, List.getElem?_eq_getElem (by omega)]; rfl
    rw [sumN, ih (by omega), toI_get (by omega), List.take_add_one, wsum_app, List.getElem?_eq_getElem (by omega), eg]
    simp [wsum]
def sumS (q : List Rep) (l : List Mrk) (G : List (List Int)) : Nat → Int
  | 0 => 0
  | t + 1 => sumS q l G t + sumN q l (G.getD t []) (G.getD t []).length
theorem sumS_take (q : List Rep) (l : List Mrk) (G : List (List Int)) : ∀ t, t ≤ G.length → sumS q l G t = ((G.take t).map fun g => sumN q l g g.length).sum := by
  intro t
  induction t with
  | zero => intro _; rfl
  | succ t ih =>
    intro ht
    rw [sumS, ih (by omega), List.take_add_one, List.map_append, List.sum_append, List.getD_eq_getElem?_getD, List.getElem?_eq_getElem (by omega)]
    simp
theorem sumS_all (q : List Rep) (r : Rul) (l : List Mrk) : sumS q l (GI r l) (GI r l).length = sglN q l l.length := by
  rw [sumS_take _ _ _ _ (Nat.le_refl _), List.take_length, ← sgl_sum, ← grps_all (labM_lab r l)]
  unfold GI grI
  rw [List.map_map]
  congr 1
  refine List.map_congr_left fun g _ => ?_
  show sumN q l (toI g) (toI g).length = _
  rw [toI_len, sumN_toI _ _ _ _ (Nat.le_refl _), List.take_length]
def lenS (G : List (List Int)) : Nat → Int
  | 0 => 0
  | t + 1 => lenS G t + (G.getD t []).length
theorem lenS_take (G : List (List Int)) : ∀ t, t ≤ G.length → lenS G t = ((G.take t).map fun g => (g.length : Int)).sum := by
  intro t
  induction t with
  | zero => intro _; rfl
  | succ t ih =>
    intro ht
    rw [lenS, ih (by omega), List.take_add_one, List.map_append, List.sum_append, List.getD_eq_getElem?_getD, List.getElem?_eq_getElem (by omega)]
    simp
theorem wsum_one (l : List Nat) : wsum (fun _ => 1) l = l.length := by
  unfold wsum
  induction l with
  | nil => rfl
  | cons x l ih => simp only [List.map_cons, List.sum_cons, List.length_cons]; omega
theorem lenS_all (r : Rul) (l : List Mrk) : lenS (GI r l) (GI r l).length = l.length := by
  have h := grps_all (labM_lab r l) (fun _ => 1)
  rw [wsum_one, List.length_range] at h
  rw [lenS_take _ _ (Nat.le_refl _), List.take_length, ← h]
  unfold GI grI
  rw [List.map_map]
  congr 1
  refine List.map_congr_left fun g _ => ?_
  show ((toI g).length : Int) = _
  rw [toI_len, wsum_one]
def hitS (K : List UInt8) (p : List Pnl) (c : Int) : Nat → Int
  | 0 => 0
  | n + 1 => hitS K p c n + if K = (p.getD n pn0).key then c else 0
theorem hit_none {K : List UInt8} {p : List Pnl} {c : Int} : ∀ n, (∀ j, j < n → ¬ K = (p.getD j pn0).key) → hitS K p c n = 0 := by
  intro n
  induction n with
  | zero => intro _; rfl
  | succ n ih => intro h; rw [hitS, ih (fun j hj => h j (by omega)), if_neg (h n (by omega))]; rfl
theorem hit_le {K : List UInt8} {p : List Pnl} {c : Int} (hp : pansE p = 0) (hc : 0 ≤ c) : ∀ n, n ≤ p.length → hitS K p c n ≤ c := by
  intro n
  induction n with
  | zero => intro _; exact hc
  | succ n ih =>
    intro hn
    rw [hitS]
    split
    · rename_i e
      rw [hit_none n (fun j hj e2 => by
        have := pan_uniq hp (i := j) (j := n) (by omega) (by omega) (e2.symm.trans e)
        omega)]
      omega
    · have := ih (by omega); omega
def estS (q : List Rep) (r : Rul) (l : List Mrk) (G : List (List Int)) (p : List Pnl) (t : Nat) : Nat → Int
  | 0 => 0
  | n + 1 => estS q r l G p t n + estN q r l G (p.getD n pn0).key t
theorem estS_succ (q : List Rep) (r : Rul) (l : List Mrk) (G : List (List Int)) (p : List Pnl) (t : Nat) : ∀ n, estS q r l G p (t + 1) n = estS q r l G p t n + hitS (panG l (G.getD t [])) p (amtI q r l (G.getD t [])) n := by
  intro n
  induction n with
  | zero => rfl
  | succ n ih => rw [estS, ih, estS, hitS, estN]; split <;> omega
theorem estS_zero (q : List Rep) (r : Rul) (l : List Mrk) (G : List (List Int)) (p : List Pnl) : ∀ n, estS q r l G p 0 n = 0 := by
  intro n
  induction n with
  | zero => rfl
  | succ n ih => rw [estS, ih]; rfl
theorem amt_le {q : List Rep} (h : repsE q = 0) {r : Rul} (hr : rBd r) (l : List Mrk) (g : List Int) : amtI q r l g ≤ sumN q l g g.length := by
  have h1 := most_bd h l g g.length
  have h2 := prod_bd (a := r.part) (b := sumN q l g g.length - mostN q l g g.length) (by unfold rBd at hr; omega) (by unfold rBd at hr; omega) (by omega)
  unfold amtI
  omega
theorem estS_le {q : List Rep} (h : repsE q = 0) {r : Rul} (hr : rBd r) (l : List Mrk) {G : List (List Int)} (hG : ∀ g ∈ G, g.length ≤ 12) {p : List Pnl} (hp : pansE p = 0) : ∀ t, t ≤ G.length → estS q r l G p t p.length ≤ sumS q l G t := by
  intro t
  induction t with
  | zero => intro _; rw [estS_zero]; exact Int.le_refl _
  | succ t ih =>
    intro ht
    have h1 := amt_bd h hr l (hG (G.getD t []) (getD_mem (by omega)))
    have h2 := hit_le (K := panG l (G.getD t [])) hp h1.1 p.length (Nat.le_refl _)
    have h3 := amt_le h hr l (G.getD t [])
    have := ih (by omega)
    rw [estS_succ, sumS]
    omega
theorem all_le (q : List Rep) (r : Rul) (l : List Mrk) (G : List (List Int)) (p : List Pnl) : ∀ n, allN q r l G p n ≤ estS q r l G p G.length n := by
  intro n
  induction n with
  | zero => exact Int.le_refl _
  | succ n ih => rw [allN, estS]; unfold outS; omega
/-- All panels together cost no more than the marks one by one. -/
theorem est_singly {q : List Rep} (h : repsE q = 0) {r : Rul} (hr : rBd r) {l : List Mrk} (hl : l.length ≤ 12) {p : List Pnl} (hp : pansE p = 0) : allN q r l (GI r l) p p.length ≤ sglN q l l.length := by
  have h1 := all_le q r l (GI r l) p p.length
  have h2 := estS_le h hr l (G := GI r l) (fun g hg => Nat.le_trans (grI_all r l l.length g hg).1 hl) hp (GI r l).length (Nat.le_refl _)
  rw [sumS_all] at h2
  omega
end Go.Proofs.YtnkdlkgannnfhaaGreat
