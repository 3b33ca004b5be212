/- BlamesFall is proved: for every input the law returns true, and its argument reads afterwards as it read before. Conditions: those of the given row alone. -/
import Derived.Test.YtcjfniddeibbhaaGreatDoorBfConTwo
import Derived.Test.YtcjfniddeibbhaaGreatDoorBfConOne
import Derived.Test.YtcjfniddeibbhaaGreatDoorBfEngTwo
import Derived.Sort.OwnSortedInts
import Derived.Shelf.Sort.Plain
import Derived.Test.YtcjfniddeibbhaaGreatDoorProg
set_option linter.unusedVariables false
set_option linter.unusedSimpArgs false
set_option maxRecDepth 20000
namespace Go.Proofs.YtcjfniddeibbhaaGreatDoor
open Go Go.Eng
theorem s221_0 : FSpec Tryz.prog 229 [.d (.int .u64 0)] [] (fun y r => (∃ m : Int, y = .d (.int .i64 m)) ∧ r = []) := by
  refine spec_of hT (C := []) Tryz.func229 rfl Tryz.call229 rfl rfl rfl ?_
  conv => whnf
  repeat' (first
    | (refine br_intro (fun hb => ?_) (fun hb => ?_) <;> (try simp only [decide_eq_true_eq, decide_eq_false_iff_not, Bool.not_eq_true', Bool.not_eq_false', Bool.and_eq_true, Bool.or_eq_true, beq_iff_eq, not_and, Int.not_le, Int.not_lt, Int.toNat_natCast, beq_eq_false_iff_ne, ne_eq, eq_self, not_true_eq_false, not_false_eq_true] at hb) <;> (conv => whnf))
    | omega
    | (refine And.intro ?_ ?_; ((try dsimp only); first | omega | (refine ⟨by omega, by omega, Int.le_trans (Int.mul_le_mul_of_nonneg_right (Int.ofNat_le.2 (Nat.le_of_ble_eq_true (rfl : Nat.ble _ 1024 = true))) (by omega)) (by omega), by omega⟩) | (refine Nat.le_trans (Nat.mul_le_mul_left _ (Nat.le_of_ble_eq_true (rfl : Nat.ble _ 1024 = true))) ?_; omega) | (unfold inI64; omega) | (constructor <;> omega) | (simp only [inI64, List.length_cons, List.length_append, List.length_nil, List.length_set] at *; omega) | decide | (unfold inI64; decide)); conv => whnf)
    | omega | decide | assumption)
  refine .ret _ ?_
  conv => whnf
  exact ⟨[], ⟨⟨_, rfl⟩, rfl⟩, trivial⟩
theorem s221_1 : FSpec Tryz.prog 229 [.d (.int .u64 1)] [] (fun y r => (∃ m : Int, y = .d (.int .i64 m)) ∧ r = []) := by
  refine spec_of hT (C := []) Tryz.func229 rfl Tryz.call229 rfl rfl rfl ?_
  conv => whnf
  repeat' (first
    | (refine br_intro (fun hb => ?_) (fun hb => ?_) <;> (try simp only [decide_eq_true_eq, decide_eq_false_iff_not, Bool.not_eq_true', Bool.not_eq_false', Bool.and_eq_true, Bool.or_eq_true, beq_iff_eq, not_and, Int.not_le, Int.not_lt, Int.toNat_natCast, beq_eq_false_iff_ne, ne_eq, eq_self, not_true_eq_false, not_false_eq_true] at hb) <;> (conv => whnf))
    | omega
    | (refine And.intro ?_ ?_; ((try dsimp only); first | omega | (refine ⟨by omega, by omega, Int.le_trans (Int.mul_le_mul_of_nonneg_right (Int.ofNat_le.2 (Nat.le_of_ble_eq_true (rfl : Nat.ble _ 1024 = true))) (by omega)) (by omega), by omega⟩) | (refine Nat.le_trans (Nat.mul_le_mul_left _ (Nat.le_of_ble_eq_true (rfl : Nat.ble _ 1024 = true))) ?_; omega) | (unfold inI64; omega) | (constructor <;> omega) | (simp only [inI64, List.length_cons, List.length_append, List.length_nil, List.length_set] at *; omega) | decide | (unfold inI64; decide)); conv => whnf)
    | omega | decide | assumption)
  refine .ret _ ?_
  conv => whnf
  exact ⟨[], ⟨⟨_, rfl⟩, rfl⟩, trivial⟩
theorem s221_2 : FSpec Tryz.prog 229 [.d (.int .u64 2)] [] (fun y r => (∃ m : Int, y = .d (.int .i64 m)) ∧ r = []) := by
  refine spec_of hT (C := []) Tryz.func229 rfl Tryz.call229 rfl rfl rfl ?_
  conv => whnf
  repeat' (first
    | (refine br_intro (fun hb => ?_) (fun hb => ?_) <;> (try simp only [decide_eq_true_eq, decide_eq_false_iff_not, Bool.not_eq_true', Bool.not_eq_false', Bool.and_eq_true, Bool.or_eq_true, beq_iff_eq, not_and, Int.not_le, Int.not_lt, Int.toNat_natCast, beq_eq_false_iff_ne, ne_eq, eq_self, not_true_eq_false, not_false_eq_true] at hb) <;> (conv => whnf))
    | omega
    | (refine And.intro ?_ ?_; ((try dsimp only); first | omega | (refine ⟨by omega, by omega, Int.le_trans (Int.mul_le_mul_of_nonneg_right (Int.ofNat_le.2 (Nat.le_of_ble_eq_true (rfl : Nat.ble _ 1024 = true))) (by omega)) (by omega), by omega⟩) | (refine Nat.le_trans (Nat.mul_le_mul_left _ (Nat.le_of_ble_eq_true (rfl : Nat.ble _ 1024 = true))) ?_; omega) | (unfold inI64; omega) | (constructor <;> omega) | (simp only [inI64, List.length_cons, List.length_append, List.length_nil, List.length_set] at *; omega) | decide | (unfold inI64; decide)); conv => whnf)
    | omega | decide | assumption)
  refine .ret _ ?_
  conv => whnf
  exact ⟨[], ⟨⟨_, rfl⟩, rfl⟩, trivial⟩
theorem s221_3 : FSpec Tryz.prog 229 [.d (.int .u64 3)] [] (fun y r => (∃ m : Int, y = .d (.int .i64 m)) ∧ r = []) := by
  refine spec_of hT (C := []) Tryz.func229 rfl Tryz.call229 rfl rfl rfl ?_
  conv => whnf
  repeat' (first
    | (refine br_intro (fun hb => ?_) (fun hb => ?_) <;> (try simp only [decide_eq_true_eq, decide_eq_false_iff_not, Bool.not_eq_true', Bool.not_eq_false', Bool.and_eq_true, Bool.or_eq_true, beq_iff_eq, not_and, Int.not_le, Int.not_lt, Int.toNat_natCast, beq_eq_false_iff_ne, ne_eq, eq_self, not_true_eq_false, not_false_eq_true] at hb) <;> (conv => whnf))
    | omega
    | (refine And.intro ?_ ?_; ((try dsimp only); first | omega | (refine ⟨by omega, by omega, Int.le_trans (Int.mul_le_mul_of_nonneg_right (Int.ofNat_le.2 (Nat.le_of_ble_eq_true (rfl : Nat.ble _ 1024 = true))) (by omega)) (by omega), by omega⟩) | (refine Nat.le_trans (Nat.mul_le_mul_left _ (Nat.le_of_ble_eq_true (rfl : Nat.ble _ 1024 = true))) ?_; omega) | (unfold inI64; omega) | (constructor <;> omega) | (simp only [inI64, List.length_cons, List.length_append, List.length_nil, List.length_set] at *; omega) | decide | (unfold inI64; decide)); conv => whnf)
    | omega | decide | assumption)
  refine .ret _ ?_
  conv => whnf
  exact ⟨[], ⟨⟨_, rfl⟩, rfl⟩, trivial⟩
theorem s221_4 : FSpec Tryz.prog 229 [.d (.int .u64 4)] [] (fun y r => (∃ m : Int, y = .d (.int .i64 m)) ∧ r = []) := by
  refine spec_of hT (C := []) Tryz.func229 rfl Tryz.call229 rfl rfl rfl ?_
  conv => whnf
  repeat' (first
    | (refine br_intro (fun hb => ?_) (fun hb => ?_) <;> (try simp only [decide_eq_true_eq, decide_eq_false_iff_not, Bool.not_eq_true', Bool.not_eq_false', Bool.and_eq_true, Bool.or_eq_true, beq_iff_eq, not_and, Int.not_le, Int.not_lt, Int.toNat_natCast, beq_eq_false_iff_ne, ne_eq, eq_self, not_true_eq_false, not_false_eq_true] at hb) <;> (conv => whnf))
    | omega
    | (refine And.intro ?_ ?_; ((try dsimp only); first | omega | (refine ⟨by omega, by omega, Int.le_trans (Int.mul_le_mul_of_nonneg_right (Int.ofNat_le.2 (Nat.le_of_ble_eq_true (rfl : Nat.ble _ 1024 = true))) (by omega)) (by omega), by omega⟩) | (refine Nat.le_trans (Nat.mul_le_mul_left _ (Nat.le_of_ble_eq_true (rfl : Nat.ble _ 1024 = true))) ?_; omega) | (unfold inI64; omega) | (constructor <;> omega) | (simp only [inI64, List.length_cons, List.length_append, List.length_nil, List.length_set] at *; omega) | decide | (unfold inI64; decide)); conv => whnf)
    | omega | decide | assumption)
  refine .ret _ ?_
  conv => whnf
  exact ⟨[], ⟨⟨_, rfl⟩, rfl⟩, trivial⟩
theorem s221_5 : FSpec Tryz.prog 229 [.d (.int .u64 5)] [] (fun y r => (∃ m : Int, y = .d (.int .i64 m)) ∧ r = []) := by
  refine spec_of hT (C := []) Tryz.func229 rfl Tryz.call229 rfl rfl rfl ?_
  conv => whnf
  repeat' (first
    | (refine br_intro (fun hb => ?_) (fun hb => ?_) <;> (try simp only [decide_eq_true_eq, decide_eq_false_iff_not, Bool.not_eq_true', Bool.not_eq_false', Bool.and_eq_true, Bool.or_eq_true, beq_iff_eq, not_and, Int.not_le, Int.not_lt, Int.toNat_natCast, beq_eq_false_iff_ne, ne_eq, eq_self, not_true_eq_false, not_false_eq_true] at hb) <;> (conv => whnf))
    | omega
    | (refine And.intro ?_ ?_; ((try dsimp only); first | omega | (refine ⟨by omega, by omega, Int.le_trans (Int.mul_le_mul_of_nonneg_right (Int.ofNat_le.2 (Nat.le_of_ble_eq_true (rfl : Nat.ble _ 1024 = true))) (by omega)) (by omega), by omega⟩) | (refine Nat.le_trans (Nat.mul_le_mul_left _ (Nat.le_of_ble_eq_true (rfl : Nat.ble _ 1024 = true))) ?_; omega) | (unfold inI64; omega) | (constructor <;> omega) | (simp only [inI64, List.length_cons, List.length_append, List.length_nil, List.length_set] at *; omega) | decide | (unfold inI64; decide)); conv => whnf)
    | omega | decide | assumption)
  refine .ret _ ?_
  conv => whnf
  exact ⟨[], ⟨⟨_, rfl⟩, rfl⟩, trivial⟩
theorem s221_6 : FSpec Tryz.prog 229 [.d (.int .u64 6)] [] (fun y r => (∃ m : Int, y = .d (.int .i64 m)) ∧ r = []) := by
  refine spec_of hT (C := []) Tryz.func229 rfl Tryz.call229 rfl rfl rfl ?_
  conv => whnf
  repeat' (first
    | (refine br_intro (fun hb => ?_) (fun hb => ?_) <;> (try simp only [decide_eq_true_eq, decide_eq_false_iff_not, Bool.not_eq_true', Bool.not_eq_false', Bool.and_eq_true, Bool.or_eq_true, beq_iff_eq, not_and, Int.not_le, Int.not_lt, Int.toNat_natCast, beq_eq_false_iff_ne, ne_eq, eq_self, not_true_eq_false, not_false_eq_true] at hb) <;> (conv => whnf))
    | omega
    | (refine And.intro ?_ ?_; ((try dsimp only); first | omega | (refine ⟨by omega, by omega, Int.le_trans (Int.mul_le_mul_of_nonneg_right (Int.ofNat_le.2 (Nat.le_of_ble_eq_true (rfl : Nat.ble _ 1024 = true))) (by omega)) (by omega), by omega⟩) | (refine Nat.le_trans (Nat.mul_le_mul_left _ (Nat.le_of_ble_eq_true (rfl : Nat.ble _ 1024 = true))) ?_; omega) | (unfold inI64; omega) | (constructor <;> omega) | (simp only [inI64, List.length_cons, List.length_append, List.length_nil, List.length_set] at *; omega) | decide | (unfold inI64; decide)); conv => whnf)
    | omega | decide | assumption)
  refine .ret _ ?_
  conv => whnf
  exact ⟨[], ⟨⟨_, rfl⟩, rfl⟩, trivial⟩
theorem s221_7 : FSpec Tryz.prog 229 [.d (.int .u64 7)] [] (fun y r => (∃ m : Int, y = .d (.int .i64 m)) ∧ r = []) := by
  refine spec_of hT (C := []) Tryz.func229 rfl Tryz.call229 rfl rfl rfl ?_
  conv => whnf
  repeat' (first
    | (refine br_intro (fun hb => ?_) (fun hb => ?_) <;> (try simp only [decide_eq_true_eq, decide_eq_false_iff_not, Bool.not_eq_true', Bool.not_eq_false', Bool.and_eq_true, Bool.or_eq_true, beq_iff_eq, not_and, Int.not_le, Int.not_lt, Int.toNat_natCast, beq_eq_false_iff_ne, ne_eq, eq_self, not_true_eq_false, not_false_eq_true] at hb) <;> (conv => whnf))
    | omega
    | (refine And.intro ?_ ?_; ((try dsimp only); first | omega | (refine ⟨by omega, by omega, Int.le_trans (Int.mul_le_mul_of_nonneg_right (Int.ofNat_le.2 (Nat.le_of_ble_eq_true (rfl : Nat.ble _ 1024 = true))) (by omega)) (by omega), by omega⟩) | (refine Nat.le_trans (Nat.mul_le_mul_left _ (Nat.le_of_ble_eq_true (rfl : Nat.ble _ 1024 = true))) ?_; omega) | (unfold inI64; omega) | (constructor <;> omega) | (simp only [inI64, List.length_cons, List.length_append, List.length_nil, List.length_set] at *; omega) | decide | (unfold inI64; decide)); conv => whnf)
    | omega | decide | assumption)
  refine .ret _ ?_
  conv => whnf
  exact ⟨[], ⟨⟨_, rfl⟩, rfl⟩, trivial⟩
theorem s221_8 : FSpec Tryz.prog 229 [.d (.int .u64 8)] [] (fun y r => (∃ m : Int, y = .d (.int .i64 m)) ∧ r = []) := by
  refine spec_of hT (C := []) Tryz.func229 rfl Tryz.call229 rfl rfl rfl ?_
  conv => whnf
  repeat' (first
    | (refine br_intro (fun hb => ?_) (fun hb => ?_) <;> (try simp only [decide_eq_true_eq, decide_eq_false_iff_not, Bool.not_eq_true', Bool.not_eq_false', Bool.and_eq_true, Bool.or_eq_true, beq_iff_eq, not_and, Int.not_le, Int.not_lt, Int.toNat_natCast, beq_eq_false_iff_ne, ne_eq, eq_self, not_true_eq_false, not_false_eq_true] at hb) <;> (conv => whnf))
    | omega
    | (refine And.intro ?_ ?_; ((try dsimp only); first | omega | (refine ⟨by omega, by omega, Int.le_trans (Int.mul_le_mul_of_nonneg_right (Int.ofNat_le.2 (Nat.le_of_ble_eq_true (rfl : Nat.ble _ 1024 = true))) (by omega)) (by omega), by omega⟩) | (refine Nat.le_trans (Nat.mul_le_mul_left _ (Nat.le_of_ble_eq_true (rfl : Nat.ble _ 1024 = true))) ?_; omega) | (unfold inI64; omega) | (constructor <;> omega) | (simp only [inI64, List.length_cons, List.length_append, List.length_nil, List.length_set] at *; omega) | decide | (unfold inI64; decide)); conv => whnf)
    | omega | decide | assumption)
  refine .ret _ ?_
  conv => whnf
  exact ⟨[], ⟨⟨_, rfl⟩, rfl⟩, trivial⟩
theorem s221_9 : FSpec Tryz.prog 229 [.d (.int .u64 9)] [] (fun y r => (∃ m : Int, y = .d (.int .i64 m)) ∧ r = []) := by
  refine spec_of hT (C := []) Tryz.func229 rfl Tryz.call229 rfl rfl rfl ?_
  conv => whnf
  repeat' (first
    | (refine br_intro (fun hb => ?_) (fun hb => ?_) <;> (try simp only [decide_eq_true_eq, decide_eq_false_iff_not, Bool.not_eq_true', Bool.not_eq_false', Bool.and_eq_true, Bool.or_eq_true, beq_iff_eq, not_and, Int.not_le, Int.not_lt, Int.toNat_natCast, beq_eq_false_iff_ne, ne_eq, eq_self, not_true_eq_false, not_false_eq_true] at hb) <;> (conv => whnf))
    | omega
    | (refine And.intro ?_ ?_; ((try dsimp only); first | omega | (refine ⟨by omega, by omega, Int.le_trans (Int.mul_le_mul_of_nonneg_right (Int.ofNat_le.2 (Nat.le_of_ble_eq_true (rfl : Nat.ble _ 1024 = true))) (by omega)) (by omega), by omega⟩) | (refine Nat.le_trans (Nat.mul_le_mul_left _ (Nat.le_of_ble_eq_true (rfl : Nat.ble _ 1024 = true))) ?_; omega) | (unfold inI64; omega) | (constructor <;> omega) | (simp only [inI64, List.length_cons, List.length_append, List.length_nil, List.length_set] at *; omega) | decide | (unfold inI64; decide)); conv => whnf)
    | omega | decide | assumption)
  refine .ret _ ?_
  conv => whnf
  exact ⟨[], ⟨⟨_, rfl⟩, rfl⟩, trivial⟩
theorem s221_10 : FSpec Tryz.prog 229 [.d (.int .u64 10)] [] (fun y r => (∃ m : Int, y = .d (.int .i64 m)) ∧ r = []) := by
  refine spec_of hT (C := []) Tryz.func229 rfl Tryz.call229 rfl rfl rfl ?_
  conv => whnf
  repeat' (first
    | (refine br_intro (fun hb => ?_) (fun hb => ?_) <;> (try simp only [decide_eq_true_eq, decide_eq_false_iff_not, Bool.not_eq_true', Bool.not_eq_false', Bool.and_eq_true, Bool.or_eq_true, beq_iff_eq, not_and, Int.not_le, Int.not_lt, Int.toNat_natCast, beq_eq_false_iff_ne, ne_eq, eq_self, not_true_eq_false, not_false_eq_true] at hb) <;> (conv => whnf))
    | omega
    | (refine And.intro ?_ ?_; ((try dsimp only); first | omega | (refine ⟨by omega, by omega, Int.le_trans (Int.mul_le_mul_of_nonneg_right (Int.ofNat_le.2 (Nat.le_of_ble_eq_true (rfl : Nat.ble _ 1024 = true))) (by omega)) (by omega), by omega⟩) | (refine Nat.le_trans (Nat.mul_le_mul_left _ (Nat.le_of_ble_eq_true (rfl : Nat.ble _ 1024 = true))) ?_; omega) | (unfold inI64; omega) | (constructor <;> omega) | (simp only [inI64, List.length_cons, List.length_append, List.length_nil, List.length_set] at *; omega) | decide | (unfold inI64; decide)); conv => whnf)
    | omega | decide | assumption)
  refine .ret _ ?_
  conv => whnf
  exact ⟨[], ⟨⟨_, rfl⟩, rfl⟩, trivial⟩
theorem s221_11 : FSpec Tryz.prog 229 [.d (.int .u64 11)] [] (fun y r => (∃ m : Int, y = .d (.int .i64 m)) ∧ r = []) := by
  refine spec_of hT (C := []) Tryz.func229 rfl Tryz.call229 rfl rfl rfl ?_
  conv => whnf
  repeat' (first
    | (refine br_intro (fun hb => ?_) (fun hb => ?_) <;> (try simp only [decide_eq_true_eq, decide_eq_false_iff_not, Bool.not_eq_true', Bool.not_eq_false', Bool.and_eq_true, Bool.or_eq_true, beq_iff_eq, not_and, Int.not_le, Int.not_lt, Int.toNat_natCast, beq_eq_false_iff_ne, ne_eq, eq_self, not_true_eq_false, not_false_eq_true] at hb) <;> (conv => whnf))
    | omega
    | (refine And.intro ?_ ?_; ((try dsimp only); first | omega | (refine ⟨by omega, by omega, Int.le_trans (Int.mul_le_mul_of_nonneg_right (Int.ofNat_le.2 (Nat.le_of_ble_eq_true (rfl : Nat.ble _ 1024 = true))) (by omega)) (by omega), by omega⟩) | (refine Nat.le_trans (Nat.mul_le_mul_left _ (Nat.le_of_ble_eq_true (rfl : Nat.ble _ 1024 = true))) ?_; omega) | (unfold inI64; omega) | (constructor <;> omega) | (simp only [inI64, List.length_cons, List.length_append, List.length_nil, List.length_set] at *; omega) | decide | (unfold inI64; decide)); conv => whnf)
    | omega | decide | assumption)
  refine .ret _ ?_
  conv => whnf
  exact ⟨[], ⟨⟨_, rfl⟩, rfl⟩, trivial⟩
theorem s221_12 : FSpec Tryz.prog 229 [.d (.int .u64 12)] [] (fun y r => (∃ m : Int, y = .d (.int .i64 m)) ∧ r = []) := by
  refine spec_of hT (C := []) Tryz.func229 rfl Tryz.call229 rfl rfl rfl ?_
  conv => whnf
  repeat' (first
    | (refine br_intro (fun hb => ?_) (fun hb => ?_) <;> (try simp only [decide_eq_true_eq, decide_eq_false_iff_not, Bool.not_eq_true', Bool.not_eq_false', Bool.and_eq_true, Bool.or_eq_true, beq_iff_eq, not_and, Int.not_le, Int.not_lt, Int.toNat_natCast, beq_eq_false_iff_ne, ne_eq, eq_self, not_true_eq_false, not_false_eq_true] at hb) <;> (conv => whnf))
    | omega
    | (refine And.intro ?_ ?_; ((try dsimp only); first | omega | (refine ⟨by omega, by omega, Int.le_trans (Int.mul_le_mul_of_nonneg_right (Int.ofNat_le.2 (Nat.le_of_ble_eq_true (rfl : Nat.ble _ 1024 = true))) (by omega)) (by omega), by omega⟩) | (refine Nat.le_trans (Nat.mul_le_mul_left _ (Nat.le_of_ble_eq_true (rfl : Nat.ble _ 1024 = true))) ?_; omega) | (unfold inI64; omega) | (constructor <;> omega) | (simp only [inI64, List.length_cons, List.length_append, List.length_nil, List.length_set] at *; omega) | decide | (unfold inI64; decide)); conv => whnf)
    | omega | decide | assumption)
  refine .ret _ ?_
  conv => whnf
  exact ⟨[], ⟨⟨_, rfl⟩, rfl⟩, trivial⟩
theorem s221 (n : Nat) (hn : n ≤ 12) : FSpec Tryz.prog 229 [.d (.int .u64 n)] [] (fun y r => (∃ m : Int, y = .d (.int .i64 m)) ∧ r = []) := by
  match n, hn with
  | 0, _ => exact s221_0
  | 1, _ => exact s221_1
  | 2, _ => exact s221_2
  | 3, _ => exact s221_3
  | 4, _ => exact s221_4
  | 5, _ => exact s221_5
  | 6, _ => exact s221_6
  | 7, _ => exact s221_7
  | 8, _ => exact s221_8
  | 9, _ => exact s221_9
  | 10, _ => exact s221_10
  | 11, _ => exact s221_11
  | 12, _ => exact s221_12
  | n + 13, h => omega
theorem wrap_u64 (n : Nat) (hn : n ≤ 12) : IntKind.u64.wrap n = n := by
  match n, hn with
  | 0, _ | 1, _ | 2, _ | 3, _ | 4, _ | 5, _ | 6, _ | 7, _ | 8, _ | 9, _ | 10, _ | 11, _ | 12, _ => decide
  | n + 13, h => omega
-- math/bits.Len of a small number
theorem sBitsLen (n : Nat) (hn : n ≤ 12) : FSpec Tryz.prog 169 [.d (.int .u64 (IntKind.u64.wrap n))] [] (fun y r => (∃ m : Int, y = .d (.int .i64 m)) ∧ r = []) := by
  rw [wrap_u64 n hn]
  refine spec_of hT (C := []) Tryz.func169 rfl Tryz.call169 rfl rfl rfl ?_
  conv => whnf
  repeat' (first
    | (refine br_intro (fun hb => ?_) (fun hb => ?_) <;> (try simp only [decide_eq_true_eq, decide_eq_false_iff_not, Bool.not_eq_true', Bool.not_eq_false', Bool.and_eq_true, Bool.or_eq_true, beq_iff_eq, not_and, Int.not_le, Int.not_lt, Int.toNat_natCast, beq_eq_false_iff_ne, ne_eq, eq_self, not_true_eq_false, not_false_eq_true] at hb) <;> (conv => whnf))
    | omega
    | (refine And.intro ?_ ?_; ((try dsimp only); first | omega | (refine ⟨by omega, by omega, Int.le_trans (Int.mul_le_mul_of_nonneg_right (Int.ofNat_le.2 (Nat.le_of_ble_eq_true (rfl : Nat.ble _ 1024 = true))) (by omega)) (by omega), by omega⟩) | (refine Nat.le_trans (Nat.mul_le_mul_left _ (Nat.le_of_ble_eq_true (rfl : Nat.ble _ 1024 = true))) ?_; omega) | (unfold inI64; omega) | (constructor <;> omega) | (simp only [inI64, List.length_cons, List.length_append, List.length_nil, List.length_set] at *; omega) | decide | (unfold inI64; decide)); conv => whnf)
    | omega | decide | assumption)
  refine CallX.of (s221 n hn) [] rfl ⟨SV.le_refl _, trivial⟩ trivial rfl rfl ?_
  rintro x rout ⟨⟨m, rfl⟩, rfl⟩
  refine ⟨rfl, ?_⟩
  conv => whnf
  refine .ret _ ?_
  conv => whnf
  exact ⟨[], ⟨⟨_, rfl⟩, rfl⟩, trivial⟩
-- insertion sort: the same elements
-- slices.SortFunc of at most twelve: the same elements
-- slices.Compact: some of the elements
end Go.Proofs.YtcjfniddeibbhaaGreatDoor
set_option maxRecDepth 20000
namespace Go.Proofs.YtcjfniddeibbhaaGreatDoor
open Go Go.Eng
-- slices.SortFunc of at most twelve shares, in full
theorem swap_midSh {A B : List Pair} {x y : Pair} {D b : List Pair} {j : Nat} (hb : (y :: A).reverse ++ [x] ++ B ++ D = b) (hj : j = A.length + 1) :
    b.getD j ([], 0) = x ∧ b.getD (j - 1) ([], 0) = y ∧ (b.set j y).set (j - 1) x = A.reverse ++ [x] ++ (y :: B) ++ D := by
  subst hj
  refine ⟨?_, ?_, ?_⟩
  · rw [← hb, show (y :: A).reverse ++ [x] ++ B ++ D = (y :: A).reverse ++ x :: (B ++ D) by simp]
    exact getD_mid _ _ _ _ (by simp)
  · rw [← hb, show (y :: A).reverse ++ [x] ++ B ++ D = A.reverse ++ y :: ([x] ++ B ++ D) by simp]
    exact getD_mid _ _ _ _ (by simp)
  · rw [← hb]
    have := swap_lemma A.reverse (B ++ D) x y
    simp only [List.length_reverse] at this
    simp only [List.reverse_cons, List.append_assoc, List.singleton_append, List.cons_append, List.nil_append, Nat.add_sub_cancel] at this ⊢
    exact this
theorem sInsSh (g : FuncId) (cmp : Pair → Pair → Int) (l : List Pair) (hl : l.length ≤ 2^40)
    (hcmp : ∀ p q, p ∈ l → q ∈ l → FSpec Tryz.prog g [.agg ((pF p).map .d), .agg ((pF q).map .d)] [] (fun y r => y = .d (.int .i64 (cmp p q)) ∧ r = [])) :
    FSpec Tryz.prog 230 [.buf 1000001, .d (.int .i64 0), .d (.int .i64 l.length), .fn g []] [(1000001, seqB 74 2 pF ([], 0) l)]
      (fun y r => y = .tup [] ∧ r = [(1000001, seqB 74 2 pF ([], 0) (isort cmp l))]) := by
  refine spec_of hT (C := []) Tryz.func230 rfl Tryz.call230 rfl rfl rfl ?_
  conv => whnf
  repeat' (first
    | (refine br_intro (fun hb => ?_) (fun hb => ?_) <;> (try simp only [decide_eq_true_eq, decide_eq_false_iff_not, Bool.not_eq_true', Bool.not_eq_false', Bool.and_eq_true, Bool.or_eq_true, beq_iff_eq, not_and, Int.not_le, Int.not_lt, Int.toNat_natCast, beq_eq_false_iff_ne, ne_eq, eq_self, not_true_eq_false, not_false_eq_true] at hb) <;> (conv => whnf))
    | (refine RegX.rule (id := 4) hT rfl [] [(0, []), (1, [0]), (2, []), (3, []), (4, []), (5, [4]), (6, [4, 5]), (7, [4]), (8, [4]), (9, [4, 5, 6, 7, 8]), (10, [4, 5, 6, 7, 8, 9]), (11, [4, 5, 6, 7, 8, 9]), (12, [4, 5, 6, 7, 8]), (13, [4, 5, 6, 7, 8]), (14, []), (15, []), (16, [])] (by decide +kernel) ?_; conv => whnf)
    | (refine RegX.rule (id := 6) hT rfl [] [(0, []), (1, [0]), (2, [0, 1]), (3, [0, 1, 2]), (4, [0, 1, 2]), (5, [0, 1, 2, 3, 4]), (6, [0, 1, 2, 3, 4, 5]), (7, [0, 1, 2, 3, 4, 5]), (8, [0, 1, 2, 3, 4]), (9, [0, 1, 2, 3, 4]), (10, [0, 1, 2, 3, 4, 5, 6, 7, 8, 9]), (11, [0, 1, 2, 3, 4, 5, 6, 7, 8, 9, 10]), (12, [0, 1, 2, 3, 4, 5, 6, 7, 8, 9]), (13, [0, 1, 2, 3, 4, 5, 6, 7, 8, 9]), (14, [2, 3, 4]), (15, [2, 3, 4]), (16, []), (17, [])] (by decide +kernel) ?_; conv => whnf)
    | omega
    | (refine And.intro ?_ ?_; ((try dsimp only); first | omega | (refine ⟨by omega, by omega, Int.le_trans (Int.mul_le_mul_of_nonneg_right (Int.ofNat_le.2 (Nat.le_of_ble_eq_true (rfl : Nat.ble _ 1024 = true))) (by omega)) (by omega), by omega⟩) | (refine Nat.le_trans (Nat.mul_le_mul_left _ (Nat.le_of_ble_eq_true (rfl : Nat.ble _ 1024 = true))) ?_; omega) | (unfold inI64; omega) | (constructor <;> omega) | (simp only [inI64, List.length_cons, List.length_append, List.length_nil, List.length_set] at *; omega) | decide | (unfold inI64; decide)); conv => whnf)
    | omega | decide | assumption)
  refine LoopX.rule hT (C := []) (ι := Nat × List Pair) (fun (i, c) => 1 ≤ i ∧ (i ≤ l.length ∨ i = 1) ∧ c = (isortR cmp (l.take i)).reverse ++ l.drop i)
    (fun (i, c) => mkSt [(0, .buf 1000001), (1, .d (.int .i64 0)), (2, .d (.int .i64 l.length)), (3, .fn g []), (8, .d (.int .i64 i))] [(1000001, seqB 74 2 pF ([], 0) c)])
    (fun (i, _) => l.length - i) (1, l) ⟨by simp, by simp, by cases l with | nil => rfl | cons x l => simp [isortR, insR]⟩ (by (refine Entails.mk' [(1000001, 1000001)] rfl rfl ?_ ?_ <;> repeat' (first | exact True.intro | exact SV.le_refl _ | exact Res.le_refl _ | exact SV.le_int (by omega) | exact SV.le_any _ | refine And.intro ?_ ?_)); done) ?_
  rintro ⟨i, c⟩ ⟨p1, p2, p3⟩
  conv => whnf
  repeat' (first
    | (refine br_intro (fun hb => ?_) (fun hb => ?_) <;> (try simp only [decide_eq_true_eq, decide_eq_false_iff_not, Bool.not_eq_true', Bool.not_eq_false', Bool.and_eq_true, Bool.or_eq_true, beq_iff_eq, not_and, Int.not_le, Int.not_lt, Int.toNat_natCast, beq_eq_false_iff_ne, ne_eq, eq_self, not_true_eq_false, not_false_eq_true] at hb) <;> (conv => whnf))
    | (refine RegX.rule (id := 4) hT rfl [] [(0, []), (1, [0]), (2, []), (3, []), (4, []), (5, [4]), (6, [4, 5]), (7, [4]), (8, [4]), (9, [4, 5, 6, 7, 8]), (10, [4, 5, 6, 7, 8, 9]), (11, [4, 5, 6, 7, 8, 9]), (12, [4, 5, 6, 7, 8]), (13, [4, 5, 6, 7, 8]), (14, []), (15, []), (16, [])] (by decide +kernel) ?_; conv => whnf)
    | (refine RegX.rule (id := 6) hT rfl [] [(0, []), (1, [0]), (2, [0, 1]), (3, [0, 1, 2]), (4, [0, 1, 2]), (5, [0, 1, 2, 3, 4]), (6, [0, 1, 2, 3, 4, 5]), (7, [0, 1, 2, 3, 4, 5]), (8, [0, 1, 2, 3, 4]), (9, [0, 1, 2, 3, 4]), (10, [0, 1, 2, 3, 4, 5, 6, 7, 8, 9]), (11, [0, 1, 2, 3, 4, 5, 6, 7, 8, 9, 10]), (12, [0, 1, 2, 3, 4, 5, 6, 7, 8, 9]), (13, [0, 1, 2, 3, 4, 5, 6, 7, 8, 9]), (14, [2, 3, 4]), (15, [2, 3, 4]), (16, []), (17, [])] (by decide +kernel) ?_; conv => whnf)
    | omega
    | (refine And.intro ?_ ?_; ((try dsimp only); first | omega | (refine ⟨by omega, by omega, Int.le_trans (Int.mul_le_mul_of_nonneg_right (Int.ofNat_le.2 (Nat.le_of_ble_eq_true (rfl : Nat.ble _ 1024 = true))) (by omega)) (by omega), by omega⟩) | (refine Nat.le_trans (Nat.mul_le_mul_left _ (Nat.le_of_ble_eq_true (rfl : Nat.ble _ 1024 = true))) ?_; omega) | (unfold inI64; omega) | (constructor <;> omega) | (simp only [inI64, List.length_cons, List.length_append, List.length_nil, List.length_set] at *; omega) | decide | (unfold inI64; decide)); conv => whnf)
    | omega | decide | assumption)
  · have hi : i < l.length := by omega
    have hx : l[i] ∈ l := List.getElem_mem hi
    have hmem : ∀ y ∈ isortR cmp (l.take i), y ∈ l := fun y hy => List.mem_of_mem_take ((isortR_mem cmp _).1 hy)
    have hlr : (isortR cmp (l.take i)).length = i := by rw [isortR_length, List.length_take]; omega
    have hc : c = (isortR cmp (l.take i)).reverse ++ [l[i]] ++ [] ++ l.drop (i + 1) := by rw [p3, List.drop_eq_getElem_cons hi]; simp
    refine LoopX.rule hT (C := []) (ι := List Pair × List Pair × List Pair) (fun (A, B, b) => insR cmp l[i] (isortR cmp (l.take i)) = B.reverse ++ insR cmp l[i] A ∧ A.length + B.length = i ∧ (∀ y ∈ A, y ∈ l) ∧ A.reverse ++ [l[i]] ++ B ++ l.drop (i + 1) = b)
      (fun (A, B, b) => mkSt [(0, .buf 1000001), (1, .d (.int .i64 0)), (2, .d (.int .i64 l.length)), (3, .fn g []), (8, .d (.int .i64 i)), (9, .d (.int .i64 A.length))] [(1000001, seqB 74 2 pF ([], 0) b)])
      (fun (A, _, _) => A.length) (isortR cmp (l.take i), [], c) ⟨by simp, by simpa using hlr, hmem, hc.symm⟩ ?_ ?_
    · exact Entails.mk' [(1000001, 1000001)] rfl rfl ⟨SV.le_refl _, SV.le_refl _, SV.le_refl _, SV.le_refl _, SV.le_refl _, SV.le_int (by omega), trivial⟩ ⟨Res.le_refl _, trivial⟩
    rintro ⟨A, B, b⟩ ⟨q1, q2, q3, hbd⟩
    have hlen : b.length = l.length := by rw [← hbd]; simp; omega
    have hfin : A = [] ∨ (∃ y A', A = y :: A' ∧ 0 ≤ cmp l[i] y) → isortR cmp (l.take (i + 1)) = B.reverse ++ l[i] :: A ∧ b = (isortR cmp (l.take (i + 1))).reverse ++ l.drop (i + 1) := fun h => by
      have e : isortR cmp (l.take (i + 1)) = B.reverse ++ l[i] :: A := by
        rw [take_snoc hi, isortR_snoc, q1]
        rcases h with rfl | ⟨y, A', rfl, h⟩
        · rfl
        · rw [insR, if_neg (by omega)]
      exact ⟨e, by rw [e, ← hbd]; simp⟩
    conv => whnf
    repeat' (first
      | (refine br_intro (fun hb => ?_) (fun hb => ?_) <;> (try simp only [decide_eq_true_eq, decide_eq_false_iff_not, Bool.not_eq_true', Bool.not_eq_false', Bool.and_eq_true, Bool.or_eq_true, beq_iff_eq, not_and, Int.not_le, Int.not_lt, Int.toNat_natCast, beq_eq_false_iff_ne, ne_eq, eq_self, not_true_eq_false, not_false_eq_true] at hb) <;> (conv => whnf))
      | (refine RegX.rule (id := 4) hT rfl [] [(0, []), (1, [0]), (2, []), (3, []), (4, []), (5, [4]), (6, [4, 5]), (7, [4]), (8, [4]), (9, [4, 5, 6, 7, 8]), (10, [4, 5, 6, 7, 8, 9]), (11, [4, 5, 6, 7, 8, 9]), (12, [4, 5, 6, 7, 8]), (13, [4, 5, 6, 7, 8]), (14, []), (15, []), (16, [])] (by decide +kernel) ?_; conv => whnf)
      | (refine RegX.rule (id := 6) hT rfl [] [(0, []), (1, [0]), (2, [0, 1]), (3, [0, 1, 2]), (4, [0, 1, 2]), (5, [0, 1, 2, 3, 4]), (6, [0, 1, 2, 3, 4, 5]), (7, [0, 1, 2, 3, 4, 5]), (8, [0, 1, 2, 3, 4]), (9, [0, 1, 2, 3, 4]), (10, [0, 1, 2, 3, 4, 5, 6, 7, 8, 9]), (11, [0, 1, 2, 3, 4, 5, 6, 7, 8, 9, 10]), (12, [0, 1, 2, 3, 4, 5, 6, 7, 8, 9]), (13, [0, 1, 2, 3, 4, 5, 6, 7, 8, 9]), (14, [2, 3, 4]), (15, [2, 3, 4]), (16, []), (17, [])] (by decide +kernel) ?_; conv => whnf)
      | omega
      | (refine And.intro ?_ ?_; ((try dsimp only); first | omega | (refine ⟨by omega, by omega, Int.le_trans (Int.mul_le_mul_of_nonneg_right (Int.ofNat_le.2 (Nat.le_of_ble_eq_true (rfl : Nat.ble _ 1024 = true))) (by omega)) (by omega), by omega⟩) | (refine Nat.le_trans (Nat.mul_le_mul_left _ (Nat.le_of_ble_eq_true (rfl : Nat.ble _ 1024 = true))) ?_; omega) | (unfold inI64; omega) | (constructor <;> omega) | (simp only [inI64, List.length_cons, List.length_append, List.length_nil, List.length_set] at *; omega) | decide | (unfold inI64; decide)); conv => whnf)
      | omega | decide | assumption)
    · cases A with
      | nil => simp at hb
      | cons y A =>
      obtain ⟨g1, g2, g3⟩ := swap_midSh (j := (((y :: A).length : Int)).toNat) hbd (by simp)
      have ej : ((((y :: A).length : Int)) - 1).toNat = (((y :: A).length : Int)).toNat - 1 := by omega
      refine CallX.of (hcmp l[i] y hx (q3 y (by simp))) [] rfl ⟨by rw [← g1]; exact SV.le_refl _, by rw [← g2, ← ej]; exact SV.le_refl _, trivial⟩ trivial rfl rfl ?_
      rintro x rout ⟨rfl, rfl⟩
      refine ⟨rfl, ?_⟩
      conv => whnf
      repeat' (first
        | (refine br_intro (fun hb => ?_) (fun hb => ?_) <;> (try simp only [decide_eq_true_eq, decide_eq_false_iff_not, Bool.not_eq_true', Bool.not_eq_false', Bool.and_eq_true, Bool.or_eq_true, beq_iff_eq, not_and, Int.not_le, Int.not_lt, Int.toNat_natCast, beq_eq_false_iff_ne, ne_eq, eq_self, not_true_eq_false, not_false_eq_true] at hb) <;> (conv => whnf))
        | (refine RegX.rule (id := 4) hT rfl [] [(0, []), (1, [0]), (2, []), (3, []), (4, []), (5, [4]), (6, [4, 5]), (7, [4]), (8, [4]), (9, [4, 5, 6, 7, 8]), (10, [4, 5, 6, 7, 8, 9]), (11, [4, 5, 6, 7, 8, 9]), (12, [4, 5, 6, 7, 8]), (13, [4, 5, 6, 7, 8]), (14, []), (15, []), (16, [])] (by decide +kernel) ?_; conv => whnf)
        | (refine RegX.rule (id := 6) hT rfl [] [(0, []), (1, [0]), (2, [0, 1]), (3, [0, 1, 2]), (4, [0, 1, 2]), (5, [0, 1, 2, 3, 4]), (6, [0, 1, 2, 3, 4, 5]), (7, [0, 1, 2, 3, 4, 5]), (8, [0, 1, 2, 3, 4]), (9, [0, 1, 2, 3, 4]), (10, [0, 1, 2, 3, 4, 5, 6, 7, 8, 9]), (11, [0, 1, 2, 3, 4, 5, 6, 7, 8, 9, 10]), (12, [0, 1, 2, 3, 4, 5, 6, 7, 8, 9]), (13, [0, 1, 2, 3, 4, 5, 6, 7, 8, 9]), (14, [2, 3, 4]), (15, [2, 3, 4]), (16, []), (17, [])] (by decide +kernel) ?_; conv => whnf)
        | omega
        | (refine And.intro ?_ ?_; ((try dsimp only); first | omega | (refine ⟨by omega, by omega, Int.le_trans (Int.mul_le_mul_of_nonneg_right (Int.ofNat_le.2 (Nat.le_of_ble_eq_true (rfl : Nat.ble _ 1024 = true))) (by omega)) (by omega), by omega⟩) | (refine Nat.le_trans (Nat.mul_le_mul_left _ (Nat.le_of_ble_eq_true (rfl : Nat.ble _ 1024 = true))) ?_; omega) | (unfold inI64; omega) | (constructor <;> omega) | (simp only [inI64, List.length_cons, List.length_append, List.length_nil, List.length_set] at *; omega) | decide | (unfold inI64; decide)); conv => whnf)
        | omega | decide | assumption)
      · refine ⟨(A, y :: B, _), ⟨by rw [q1]; simp [insR, hb], by simp only [List.length_cons] at q2 ⊢; omega, fun z hz => q3 z (by simp [hz]), ?_⟩, by show A.length < (y :: A).length; simp, Entails.mk' [(1000001, 1000001)] rfl rfl ⟨SV.le_refl _, SV.le_refl _, SV.le_refl _, SV.le_refl _, SV.le_refl _, SV.le_int (by simp only [List.length_cons]; omega), trivial⟩ ⟨Res.le_put2 (x := b.getD ((((y :: A).length : Int)) - 1).toNat ([], 0)) (y := b.getD (((y :: A).length : Int)).toNat ([], 0)) (fun _ => rfl) (fun _ => rfl), trivial⟩⟩
        rw [← g3, ej, g1, g2]
      · obtain ⟨_, h2⟩ := hfin (.inr ⟨y, A, rfl, hb⟩)
        exact ⟨(i + 1, b), ⟨by omega, by omega, h2⟩, by show l.length - (i + 1) < l.length - i; omega, (by (refine Entails.mk' [(1000001, 1000001)] rfl rfl ?_ ?_ <;> repeat' (first | exact True.intro | exact SV.le_refl _ | exact Res.le_refl _ | exact SV.le_int (by omega) | exact SV.le_any _ | refine And.intro ?_ ?_)); done)⟩
    · have hA : A = [] := List.length_eq_zero_iff.1 (by omega)
      obtain ⟨_, h2⟩ := hfin (.inl hA)
      exact ⟨(i + 1, b), ⟨by omega, by omega, h2⟩, by show l.length - (i + 1) < l.length - i; omega, (by (refine Entails.mk' [(1000001, 1000001)] rfl rfl ?_ ?_ <;> repeat' (first | exact True.intro | exact SV.le_refl _ | exact Res.le_refl _ | exact SV.le_int (by omega) | exact SV.le_any _ | refine And.intro ?_ ?_)); done)⟩
  · refine .ret _ ?_
    conv => whnf
    have e1 : c = isort cmp l := by
      rw [p3, List.take_of_length_le (by omega), List.drop_eq_nil_iff.2 (by omega), List.append_nil]; rfl
    subst e1
    exact ⟨_, ⟨rfl, rfl⟩, Res.le_refl _, trivial⟩
theorem sPdqSh (g : FuncId) (cmp : Pair → Pair → Int) (l : List Pair) (hl : l.length ≤ 12) (lim : Int)
    (hcmp : ∀ p q, p ∈ l → q ∈ l → FSpec Tryz.prog g [.agg ((pF p).map .d), .agg ((pF q).map .d)] [] (fun y r => y = .d (.int .i64 (cmp p q)) ∧ r = [])) :
    FSpec Tryz.prog 170 [.buf 1000001, .d (.int .i64 0), .d (.int .i64 l.length), .d (.int .i64 lim), .fn g []] [(1000001, seqB 74 2 pF ([], 0) l)]
      (fun y r => y = .tup [] ∧ r = [(1000001, seqB 74 2 pF ([], 0) (isort cmp l))]) := by
  refine spec_of hT (C := []) Tryz.func170 rfl Tryz.call170 rfl rfl rfl ?_
  conv => whnf
  refine LoopX.unroll hT (C := []) (fun _ _ h => h) (fun _ h => h) ?_
  conv => whnf
  repeat' (first
    | (refine br_intro (fun hb => ?_) (fun hb => ?_) <;> (try simp only [decide_eq_true_eq, decide_eq_false_iff_not, Bool.not_eq_true', Bool.not_eq_false', Bool.and_eq_true, Bool.or_eq_true, beq_iff_eq, not_and, Int.not_le, Int.not_lt, Int.toNat_natCast, beq_eq_false_iff_ne, ne_eq, eq_self, not_true_eq_false, not_false_eq_true] at hb) <;> (conv => whnf))
    | (refine RegX.rule (id := 17) hT rfl [] [(0, []), (1, []), (2, []), (3, []), (4, [3]), (5, [3, 4]), (6, [3, 4]), (7, [3]), (8, [3]), (9, [3, 4, 5, 6, 7, 8]), (10, [3, 4, 5, 6, 7, 8, 9]), (11, [3, 4, 5, 6, 7, 8]), (12, [3, 4, 5, 6, 7, 8]), (13, []), (14, []), (15, []), (16, [])] (by decide +kernel) ?_; conv => whnf)
    | omega
    | (refine And.intro ?_ ?_; ((try dsimp only); first | omega | (refine ⟨by omega, by omega, Int.le_trans (Int.mul_le_mul_of_nonneg_right (Int.ofNat_le.2 (Nat.le_of_ble_eq_true (rfl : Nat.ble _ 1024 = true))) (by omega)) (by omega), by omega⟩) | (refine Nat.le_trans (Nat.mul_le_mul_left _ (Nat.le_of_ble_eq_true (rfl : Nat.ble _ 1024 = true))) ?_; omega) | (unfold inI64; omega) | (constructor <;> omega) | (simp only [inI64, List.length_cons, List.length_append, List.length_nil, List.length_set] at *; omega) | decide | (unfold inI64; decide)); conv => whnf)
    | omega | decide | assumption)
  refine CallX.of (sInsSh g cmp l (by omega) hcmp) [(1000001, 1000001)] rfl ⟨SV.le_refl _, SV.le_refl _, SV.le_refl _, SV.le_refl _, trivial⟩ ⟨Res.le_refl _, trivial⟩ rfl rfl ?_
  rintro x rout ⟨rfl, rfl⟩
  refine ⟨rfl, ?_⟩
  conv => whnf
  refine .ret _ ?_
  conv => whnf
  exact ⟨_, ⟨rfl, rfl⟩, Res.le_refl _, trivial⟩
theorem sSortSh (g : FuncId) (cmp : Pair → Pair → Int) (l : List Pair) (hl : l.length ≤ 12)
    (hcmp : ∀ p q, p ∈ l → q ∈ l → FSpec Tryz.prog g [.agg ((pF p).map .d), .agg ((pF q).map .d)] [] (fun y r => y = .d (.int .i64 (cmp p q)) ∧ r = [])) :
    FSpec Tryz.prog 104 [.buf 1000001, .fn g []] [(1000001, seqB 74 2 pF ([], 0) l)]
      (fun y r => y = .tup [] ∧ r = [(1000001, seqB 74 2 pF ([], 0) (isort cmp l))]) := by
  refine spec_of hT (C := []) Tryz.func104 rfl Tryz.call104 rfl rfl rfl ?_
  conv => whnf
  repeat' (first
    | (refine br_intro (fun hb => ?_) (fun hb => ?_) <;> (try simp only [decide_eq_true_eq, decide_eq_false_iff_not, Bool.not_eq_true', Bool.not_eq_false', Bool.and_eq_true, Bool.or_eq_true, beq_iff_eq, not_and, Int.not_le, Int.not_lt, Int.toNat_natCast, beq_eq_false_iff_ne, ne_eq, eq_self, not_true_eq_false, not_false_eq_true] at hb) <;> (conv => whnf))
    | omega
    | (refine And.intro ?_ ?_; ((try dsimp only); first | omega | (refine ⟨by omega, by omega, Int.le_trans (Int.mul_le_mul_of_nonneg_right (Int.ofNat_le.2 (Nat.le_of_ble_eq_true (rfl : Nat.ble _ 1024 = true))) (by omega)) (by omega), by omega⟩) | (refine Nat.le_trans (Nat.mul_le_mul_left _ (Nat.le_of_ble_eq_true (rfl : Nat.ble _ 1024 = true))) ?_; omega) | (unfold inI64; omega) | (constructor <;> omega) | (simp only [inI64, List.length_cons, List.length_append, List.length_nil, List.length_set] at *; omega) | decide | (unfold inI64; decide)); conv => whnf)
    | omega | decide | assumption)
  refine CallX.of (sBitsLen l.length hl) [] rfl ⟨SV.le_refl _, trivial⟩ trivial rfl rfl ?_
  rintro x rout ⟨⟨lim, rfl⟩, rfl⟩
  refine ⟨rfl, ?_⟩
  conv => whnf
  repeat' (first
    | (refine br_intro (fun hb => ?_) (fun hb => ?_) <;> (try simp only [decide_eq_true_eq, decide_eq_false_iff_not, Bool.not_eq_true', Bool.not_eq_false', Bool.and_eq_true, Bool.or_eq_true, beq_iff_eq, not_and, Int.not_le, Int.not_lt, Int.toNat_natCast, beq_eq_false_iff_ne, ne_eq, eq_self, not_true_eq_false, not_false_eq_true] at hb) <;> (conv => whnf))
    | omega
    | (refine And.intro ?_ ?_; ((try dsimp only); first | omega | (refine ⟨by omega, by omega, Int.le_trans (Int.mul_le_mul_of_nonneg_right (Int.ofNat_le.2 (Nat.le_of_ble_eq_true (rfl : Nat.ble _ 1024 = true))) (by omega)) (by omega), by omega⟩) | (refine Nat.le_trans (Nat.mul_le_mul_left _ (Nat.le_of_ble_eq_true (rfl : Nat.ble _ 1024 = true))) ?_; omega) | (unfold inI64; omega) | (constructor <;> omega) | (simp only [inI64, List.length_cons, List.length_append, List.length_nil, List.length_set] at *; omega) | decide | (unfold inI64; decide)); conv => whnf)
    | omega | decide | assumption)
  refine CallX.of (sPdqSh g cmp l hl lim hcmp) [(1000001, 1000001)] rfl ⟨SV.le_refl _, SV.le_refl _, SV.le_refl _, SV.le_refl _, SV.le_refl _, trivial⟩ ⟨Res.le_refl _, trivial⟩ rfl rfl ?_
  rintro x rout ⟨rfl, rfl⟩
  refine ⟨rfl, ?_⟩
  conv => whnf
  refine .ret _ ?_
  conv => whnf
  exact ⟨_, ⟨rfl, rfl⟩, Res.le_refl _, trivial⟩
end Go.Proofs.YtcjfniddeibbhaaGreatDoor
namespace Go.Eng
open Go Go.Proofs Go.Sort Go.RowKit
def sortI (l : List Int) : List Int := l.mergeSort fun x y => decide (x ≤ y)
theorem sortI_perm (l : List Int) : (sortI l).Perm l := List.mergeSort_perm _ _
theorem sortI_length (l : List Int) : (sortI l).length = l.length := (sortI_perm l).length_eq
theorem sortI_sorted (l : List Int) : (sortI l).Pairwise fun x y => x ≤ y := by
  have := List.pairwise_mergeSort (le := fun x y : Int => decide (x ≤ y)) (fun a b c h1 h2 => by simp at *; omega) (fun a b => by simp; omega) l
  exact this.imp (fun h => by simpa using h)
/-- slices.Sort of integers: what the library's contract says of an own row. -/
theorem FSpec.sortI {P : Program} {f : FuncId} {e : TypeId} (henter : ∀ args w, (callFunc f args).run P w = .ok (.enter f args) w) (l : List Int) (h1 : 0 < l.length)
    (hc : ∀ (blk cap : Nat) (w : World), Holds (Value.int .i64) w blk 0 l.toArray → blk < w.heap.size → Calls P f #[.slice (some ⟨blk, 0, none⟩) l.length cap] w fun e' w' => e' = .returned (.tuple #[]) ∧ ∃ n os, w' = grow (putRow (Value.int .i64) (Sort.ahead w n) blk 0 (Go.Eng.sortI l).toArray) os) :
    FSpec P f [.buf 1000001] [(1000001, seqB e 1 iF 0 l)] (fun y r => y = .tup [] ∧ r = [(1000001, seqB e 1 iF 0 (Go.Eng.sortI l))]) := by
  refine ⟨henter, fun G β w vs hpre hvl hvd => ?_⟩
  match vs, hvl with
  | [v], _ =>
    have hv := hvd 0 _ _ rfl rfl
    cases hv with | buf _ _ hb _ =>
    have hR : lookL [(1000001, seqB e 1 iF 0 l)] 1000001 = some (seqB e 1 iF 0 l) := by simp [lookL]
    have hrow : ∀ {q : List Int} d r, lookL [(1000001, seqB e 1 iF 0 q)] d = some r → d = 1000001 ∧ r = seqB e 1 iF 0 q := by
      intro q d r hr
      simp only [lookL] at hr
      cases hq : Nat.beq d 1000001 with
      | false => rw [show (d.beq 1000001) = false from hq] at hr; cases hr
      | true => rw [show (d.beq 1000001) = true from hq] at hr; cases hr; exact ⟨Nat.eq_of_beq_eq_true hq, rfl⟩
    obtain ⟨v', xs, hv', hown, _, _, hden⟩ := hpre.rs _ _ hR
    rw [hb] at hv'; cases hv'
    rcases hown.2 with ⟨_, hz⟩ | ⟨g, cap, cur, rfl, hg, hh, hnc, hcm, hcz, htake⟩
    · omega
    have hxs : xs = l.map (Value.int .i64) := by
      apply List.ext_getElem
      · rw [hown.1]; simp
      intro i hi hi'
      have hil : i < l.length := by simpa using hi'
      obtain ⟨u, hu, hd⟩ := hden i 0 (.int .i64 (l.getD i 0)) hil rfl
      rw [Nat.mul_one, Nat.add_zero, List.getElem?_eq_getElem hi] at hu
      cases hu
      generalize xs[i] = z at hd
      cases hd
      simp [List.getD_eq_getElem?_getD, hil]
    have hgs : g < w.heap.size := (Array.getElem?_eq_some_iff.1 hh).1
    have hho := holds_of_blockI (ss := l) hh (by rw [← hxs, ← htake, Nat.mul_one])
    refine (hc g cap w hho hgs).mono ?_
    rintro e' w' ⟨rfl, n, os, rfl⟩
    have hgb := grownBy_sortedI (w := w) (g := g) (n := n) (os := os) (Go.Eng.sortI l).toArray
    have hrs := ownsRow_sortedI (w := w) (base := 0) (cap := cap) (n := n) (os := os) (sortI_length l) (Nat.zero_le _) hh hnc hcm hcz
    have hTin : Tin w β (lookL [(1000001, seqB e 1 iF 0 l)]) g := ⟨1000001, _, _, hR, rfl, hb, .of rfl⟩
    have hGg : G g = none := hpre.og _ _ _ g hR rfl hb (.of rfl)
    refine ⟨.tuple #[], .tup [], _, G, β, rfl, ⟨rfl, rfl⟩, ⟨Hp.le_refl G, Env.le_refl β, fun b o ho => ?_, fun b o ho => .inl ho, ⟨hgb.os, hgb.tape, hgb.output, hgb.size, fun b hlt hT => ?_⟩, fun d r hr => ?_, fun d d' r r' _ _ _ e1 e2 _ _ _ _ _ _ => ?_, fun d r u b e1 _ hu hbk => ?_⟩, .tup [] [] rfl (fun i x v hx => by simp at hx)⟩
    · have hw := hpre.gw b o ho
      rw [hgb.block b (Array.getElem?_eq_some_iff.1 hw).1 (fun q => by cases q; rw [hGg] at ho; cases ho)]; exact hw
    · exact hgb.block b hlt (fun q => by cases q; exact hT hTin)
    · obtain ⟨rfl, rfl⟩ := hrow d r hr
      refine ⟨_, _, hb, by rw [sortI_length]; exact hrs, by omega, fun i hi => rfl, fun i j x hi hx => ?_⟩
      have hj : j = 0 := by
        have := (List.getElem?_eq_some_iff.1 hx).1
        simp [rowF, iF] at this; omega
      subst hj
      simp [rowF, iF] at hx
      subst hx
      exact ⟨.int .i64 ((Go.Eng.sortI l).getD i 0), by rw [Nat.mul_one, Nat.add_zero]; simp [List.getD_eq_getElem?_getD, hi], .int _ _⟩
    · rw [(hrow d r e1).1, (hrow d' r' e2).1]
    · obtain ⟨rfl, rfl⟩ := hrow d r e1
      rw [hb] at hu; cases hu
      cases hbk.plain rfl
      exact ⟨hGg, .inl hTin⟩
end Go.Eng
namespace Go.Proofs
open Go.Shelf
def Tryz.lays189_ren : Go.Shelf.Ren := ⟨fun | 189 => 102 | 125 => 169 | 257 => 168 | 128 => 228 | 129 => 229 | 294 => 219 | 295 => 220 | 296 => 221 | 297 => 222 | 298 => 223 | 299 => 224 | 216 => 225 | 300 => 226 | 301 => 227 | 328 => 277 | 329 => 278 | 330 => 279 | 331 => 280 | 332 => 281 | 215 => 185 | 343 => 306 | n => n, fun | 28 => 22 | 3 => 3 | 46 => 242 | 0 => 0 | 51 => 305 | 53 => 307 | 4 => 4 | 183 => 298 | 182 => 297 | 131 => 254 | 5 => 5 | 9 => 9 | 218 => 349 | 222 => 353 | 228 => 370 | 229 => 92 | n => n, fun | n => n⟩
theorem Tryz.lays189 : Go.Proofs.Lays.n189 Tryz.prog Tryz.lays189_ren := {
  mixed := by kernel_rfl
  f125 := Tryz.func169.trans (congrArg some (by kernel_rfl))
  f128 := Tryz.func228.trans (congrArg some (by kernel_rfl))
  f129 := Tryz.func229.trans (congrArg some (by kernel_rfl))
  f189 := Tryz.func102.trans (congrArg some (by kernel_rfl))
  f215 := Tryz.func185.trans (congrArg some (by kernel_rfl))
  f216 := Tryz.func225.trans (congrArg some (by kernel_rfl))
  f257 := Tryz.func168.trans (congrArg some (by kernel_rfl))
  f294 := Tryz.func219.trans (congrArg some (by kernel_rfl))
  f295 := Tryz.func220.trans (congrArg some (by kernel_rfl))
  f296 := Tryz.func221.trans (congrArg some (by kernel_rfl))
  f297 := Tryz.func222.trans (congrArg some (by kernel_rfl))
  f298 := Tryz.func223.trans (congrArg some (by kernel_rfl))
  f299 := Tryz.func224.trans (congrArg some (by kernel_rfl))
  f300 := Tryz.func226.trans (congrArg some (by kernel_rfl))
  f301 := Tryz.func227.trans (congrArg some (by kernel_rfl))
  f328 := Tryz.func277.trans (congrArg some (by kernel_rfl))
  f329 := Tryz.func278.trans (congrArg some (by kernel_rfl))
  f330 := Tryz.func279.trans (congrArg some (by kernel_rfl))
  f331 := Tryz.func280.trans (congrArg some (by kernel_rfl))
  f332 := Tryz.func281.trans (congrArg some (by kernel_rfl))
  f343 := Tryz.func306.trans (congrArg some (by kernel_rfl))
  t0 := Tryz.underlying0
  a0 := Tryz.isAgg0
  z0 := Tryz.sizeOf0
  v0 := Tryz.zeroValue0
  t3 := Tryz.underlying3
  a3 := Tryz.isAgg3
  z3 := Tryz.sizeOf3
  v3 := Tryz.zeroValue3
  t4 := Tryz.underlying4
  a4 := Tryz.isAgg4
  z4 := Tryz.sizeOf4
  v4 := Tryz.zeroValue4
  t5 := Tryz.underlying5
  a5 := Tryz.isAgg5
  z5 := Tryz.sizeOf5
  v5 := Tryz.zeroValue5
  t9 := Tryz.underlying9
  a9 := Tryz.isAgg9
  z9 := Tryz.sizeOf9
  v9 := Tryz.zeroValue9
  t28 := Tryz.underlying22
  a28 := Tryz.isAgg22
  z28 := Tryz.sizeOf22
  v28 := Tryz.zeroValue22
  t46 := Tryz.underlying242
  a46 := Tryz.isAgg242
  z46 := Tryz.sizeOf242
  v46 := Tryz.zeroValue242
  t51 := Tryz.underlying305
  a51 := Tryz.isAgg305
  z51 := Tryz.sizeOf305
  v51 := Tryz.zeroValue305
  t53 := Tryz.underlying307
  a53 := Tryz.isAgg307
  z53 := Tryz.sizeOf307
  v53 := Tryz.zeroValue307
  t131 := Tryz.underlying254
  a131 := Tryz.isAgg254
  z131 := Tryz.sizeOf254
  v131 := Tryz.zeroValue254
  t182 := Tryz.underlying297
  a182 := Tryz.isAgg297
  z182 := Tryz.sizeOf297
  v182 := Tryz.zeroValue297
  t183 := Tryz.underlying298
  a183 := Tryz.isAgg298
  z183 := Tryz.sizeOf298
  v183 := Tryz.zeroValue298
  t218 := Tryz.underlying349
  a218 := Tryz.isAgg349
  z218 := Tryz.sizeOf349
  v218 := Tryz.zeroValue349
  t222 := Tryz.underlying353
  a222 := Tryz.isAgg353
  z222 := Tryz.sizeOf353
  v222 := Tryz.zeroValue353
  t228 := Tryz.underlying370
  a228 := Tryz.isAgg370
  z228 := Tryz.sizeOf370
  v228 := Tryz.zeroValue370
  t229 := Tryz.underlying92
  a229 := Tryz.isAgg92
  z229 := Tryz.sizeOf92
  v229 := Tryz.zeroValue92 }
end Go.Proofs
set_option maxRecDepth 20000
namespace Go.Proofs.YtcjfniddeibbhaaGreatDoor
open Go Go.Eng
-- slices.Sort of integers
theorem z102 (l : List Int) (h1 : 0 < l.length) (hl : l.length < 2^40) : FSpec Tryz.prog 102 [.buf 1000001] [(1000001, seqB 3 1 iF 0 l)] (fun y r => y = .tup [] ∧ r = [(1000001, seqB 3 1 iF 0 (sortI l))]) := by
  have e : Tryz.lays189_ren.f 189 = 102 := rfl
  refine FSpec.sortI Tryz.call102 l h1 (fun blk cap w hH hb => ?_)
  have := Any.slices_Sort_int Tryz.lays189 blk 0 cap l w hH hb (by omega)
  rw [e] at this
  exact this
end Go.Proofs.YtcjfniddeibbhaaGreatDoor
set_option maxRecDepth 20000
namespace Go.Proofs.YtcjfniddeibbhaaGreatDoor
open Go Go.Eng
theorem less_tot : ∀ {a b : List UInt8}, Op.bytesLess a b = false → a ≠ b → Op.bytesLess b a = true := by
  intro a
  induction a with
  | nil => intro b h hn; cases b with
    | nil => exact absurd rfl hn
    | cons y b => simp [Op.bytesLess] at h
  | cons x a ih =>
    intro b h hn
    cases b with
    | nil => rfl
    | cons y b =>
      simp only [Op.bytesLess] at h ⊢
      by_cases hxy : x = y
      · subst hxy
        simp at h ⊢
        exact ih h (fun q => hn (by rw [q]))
      · rcases Nat.lt_or_gt_of_ne (fun q => hxy (UInt8.toNat_inj.1 q)) with q | q
        · have : x < y := UInt8.lt_iff_toNat_lt.2 q
          simp [this] at h
        · have : y < x := UInt8.lt_iff_toNat_lt.2 q
          simp [this]
theorem uniq_sorted {α : Type} (R : α → α → Prop) (ir : ∀ a, ¬ R a a) (tr : ∀ a b c, R a b → R b c → R a c) : ∀ {l m : List α}, l.Pairwise R → m.Pairwise R → (∀ x, x ∈ l ↔ x ∈ m) → l = m := by
  intro l
  induction l with
  | nil =>
    intro m _ _ h
    cases m with
    | nil => rfl
    | cons y m => exact absurd ((h y).2 (by simp)) (by simp)
  | cons x l ih =>
    intro m hl hm h
    cases m with
    | nil => exact absurd ((h x).1 (by simp)) (by simp)
    | cons y m =>
      rw [List.pairwise_cons] at hl hm
      have hxy : x = y := by
        rcases List.mem_cons.1 ((h x).1 (by simp)) with q | q
        · exact q
        · rcases List.mem_cons.1 ((h y).2 (by simp)) with q2 | q2
          · exact q2.symm
          · exact absurd (tr _ _ _ (hm.1 x q) (hl.1 y q2)) (ir _)
      subst hxy
      rw [ih hl.2 hm.2 (fun z => ⟨fun hz => ?_, fun hz => ?_⟩)]
      · rcases List.mem_cons.1 ((h z).1 (by simp [hz])) with q | q
        · subst q; exact absurd (hl.1 z hz) (ir _)
        · exact q
      · rcases List.mem_cons.1 ((h z).2 (by simp [hz])) with q | q
        · subst q; exact absurd (hm.1 z hz) (ir _)
        · exact q
theorem nodup_len {α : Type} : ∀ {l m : List α}, l.Nodup → (∀ x ∈ l, x ∈ m) → l.length ≤ m.length := by
  intro l
  induction l with
  | nil => intro m _ _; simp
  | cons x l ih =>
    intro m hn h
    rw [List.nodup_cons] at hn
    obtain ⟨A, B, rfl⟩ := List.append_of_mem (h x (by simp))
    have := ih (m := A ++ B) hn.2 (fun z hz => by
      rcases List.mem_append.1 (h z (by simp [hz])) with q | q
      · exact List.mem_append_left _ q
      · rcases List.mem_cons.1 q with q | q
        · subst q; exact absurd hz hn.1
        · exact List.mem_append_right _ q)
    simp at this ⊢; omega
/- Cuts. -/
def clp (a b x : Int) : Int := min (max x a) b
def cutL (a b : Int) (x : Leg) : List Int := [clp a b x.out.tm, clp a b (lastE x)]
def cutH (a b : Int) (h : Hir) : List Int := h.legs.flatMap (cutL a b)
def cutsG (a b : Int) (l : List Hir) : List Int := [a, b] ++ l.flatMap (cutH a b)
theorem cutsG_mem {a b : Int} (hab : a ≤ b) {l : List Hir} {e : Int} (h : e ∈ cutsG a b l) : a ≤ e ∧ e ≤ b := by
  unfold cutsG at h
  rcases List.mem_append.1 h with q | q
  · simp at q; omega
  · obtain ⟨g, _, hg⟩ := List.mem_flatMap.1 q
    unfold cutH at hg
    obtain ⟨x, _, hx⟩ := List.mem_flatMap.1 hg
    unfold cutL clp at hx
    simp at hx
    omega
section
variable {v : List UInt8} {a b : Int} {l : List Hir}
theorem cuts_pos : 2 ≤ (sortI (cutsG a b l)).length := by rw [sortI_length]; simp [cutsG]
theorem sort_le {C : List Int} (hs : C.Pairwise fun x y => x ≤ y) {i j : Nat} (hij : i ≤ j) (hj : j < C.length) : C.getD i 0 ≤ C.getD j 0 := by
  rcases Nat.lt_or_eq_of_le hij with q | q
  · rw [List.getD_eq_getElem?_getD, List.getD_eq_getElem?_getD, List.getElem?_eq_getElem (by omega : i < C.length), List.getElem?_eq_getElem hj]
    exact List.pairwise_iff_getElem.1 hs i j (by omega) hj q
  · subst q; exact Int.le_refl _
theorem cuts_bd (hab : a ≤ b) {i : Nat} (hi : i < (sortI (cutsG a b l)).length) : a ≤ (sortI (cutsG a b l)).getD i 0 ∧ (sortI (cutsG a b l)).getD i 0 ≤ b :=
  cutsG_mem hab ((sortI_perm _).mem_iff.1 (getD_mem hi))
theorem cuts_first (hab : a ≤ b) : (sortI (cutsG a b l)).getD 0 0 = a := by
  have hm : a ∈ sortI (cutsG a b l) := (sortI_perm _).mem_iff.2 (by simp [cutsG])
  obtain ⟨j, hj, hja⟩ := mem_getD (d := 0) hm
  have h1 := sort_le (sortI_sorted (cutsG a b l)) (Nat.zero_le j) hj
  have h2 := (cuts_bd (l := l) hab (i := 0) (by omega)).1
  omega
theorem cuts_last (hab : a ≤ b) : (sortI (cutsG a b l)).getD ((sortI (cutsG a b l)).length - 1) 0 = b := by
  have hm : b ∈ sortI (cutsG a b l) := (sortI_perm _).mem_iff.2 (by simp [cutsG])
  obtain ⟨j, hj, hja⟩ := mem_getD (d := 0) hm
  have h1 := sort_le (sortI_sorted (cutsG a b l)) (show j ≤ (sortI (cutsG a b l)).length - 1 by omega) (by omega)
  have h2 := (cuts_bd (l := l) hab (i := (sortI (cutsG a b l)).length - 1) (by omega)).2
  omega
/-- No cut lies between two that follow one another. -/
theorem cuts_apart {i : Nat} (h0 : 0 < i) (hi : i < (sortI (cutsG a b l)).length) {e : Int} (he : e ∈ cutsG a b l) : e ≤ (sortI (cutsG a b l)).getD (i - 1) 0 ∨ (sortI (cutsG a b l)).getD i 0 ≤ e := by
  obtain ⟨j, hj, hje⟩ := mem_getD (d := 0) ((sortI_perm _).mem_iff.2 he)
  rcases Nat.lt_or_ge j i with q | q
  · exact .inl (by have := sort_le (sortI_sorted (cutsG a b l)) (show j ≤ i - 1 by omega) (by omega); omega)
  · exact .inr (by have := sort_le (sortI_sorted (cutsG a b l)) q hj; omega)
theorem occ_const (hab : a ≤ b) {i : Nat} (h0 : 0 < i) (hi : i < (sortI (cutsG a b l)).length) {t : Int} (h1 : (sortI (cutsG a b l)).getD (i - 1) 0 ≤ t) (h2 : t < (sortI (cutsG a b l)).getD i 0) {h : Hir} (hh : h ∈ l) :
    occ v h t = occ v h ((sortI (cutsG a b l)).getD (i - 1) 0) := by
  have hb1 := cuts_bd (l := l) hab (i := i - 1) (by omega)
  have hb2 := cuts_bd (l := l) hab hi
  unfold occ
  have key : ∀ x ∈ h.legs, onL v x t = onL v x ((sortI (cutsG a b l)).getD (i - 1) 0) := fun x hx => by
    have m1 : clp a b x.out.tm ∈ cutsG a b l := List.mem_append_right _ (List.mem_flatMap.2 ⟨h, hh, List.mem_flatMap.2 ⟨x, hx, by simp [cutL]⟩⟩)
    have m2 : clp a b (lastE x) ∈ cutsG a b l := List.mem_append_right _ (List.mem_flatMap.2 ⟨h, hh, List.mem_flatMap.2 ⟨x, hx, by simp [cutL]⟩⟩)
    have a1 := cuts_apart h0 hi m1
    have a2 := cuts_apart h0 hi m2
    unfold clp at a1 a2
    unfold onL
    congr 1
    rw [Bool.eq_iff_iff]
    simp only [Bool.and_eq_true, decide_eq_true_eq]
    omega
  rw [Bool.eq_iff_iff, List.any_eq_true, List.any_eq_true]
  exact ⟨fun ⟨x, hx, hq⟩ => ⟨x, hx, by rw [← key x hx]; exact hq⟩, fun ⟨x, hx, hq⟩ => ⟨x, hx, by rw [key x hx]; exact hq⟩⟩
theorem who_const (hab : a ≤ b) {i : Nat} (h0 : 0 < i) (hi : i < (sortI (cutsG a b l)).length) {t : Int} (h1 : (sortI (cutsG a b l)).getD (i - 1) 0 ≤ t) (h2 : t < (sortI (cutsG a b l)).getD i 0) :
    whoL v l t = whoL v l ((sortI (cutsG a b l)).getD (i - 1) 0) := by
  unfold whoL
  congr 1
  exact List.filter_congr fun h hh => occ_const hab h0 hi h1 h2 hh
def keyB1 (k : List UInt8) : List (List UInt8) := if k = [] then [] else [k]
/-- The weight of a key up to a moment. -/
def wtK (v : List UInt8) (l : List Hir) (a : Int) (k : List UInt8) (t : Int) : Int := sm (fun u => b2i (decide (whoL v l u = keyB1 k))) a t
theorem wtK_nonneg (k : List UInt8) (t : Int) : 0 ≤ wtK v l a k t := sm_nonneg fun _ _ _ => b2i_nonneg _
theorem wtK_le (k : List UInt8) {t : Int} (h : a ≤ t) : wtK v l a k t ≤ t - a := by
  have h1 : sm (fun _ => 1) a t = wtK v l a k t + sm (fun u => b2i (!decide (whoL v l u = keyB1 k))) a t := by
    unfold wtK
    rw [← sm_plus]
    refine sm_congr fun u _ _ => ?_
    cases decide (whoL v l u = keyB1 k) <;> rfl
  have h2 := sm_nonneg (f := fun u => b2i (!decide (whoL v l u = keyB1 k))) (a := a) (b := t) (fun _ _ _ => b2i_nonneg _)
  rw [sm_const h] at h1
  omega
theorem wtK_step (hab : a ≤ b) {i : Nat} (h0 : 0 < i) (hi : i < (sortI (cutsG a b l)).length) (k : List UInt8) :
    wtK v l a k ((sortI (cutsG a b l)).getD i 0) = wtK v l a k ((sortI (cutsG a b l)).getD (i - 1) 0) + (if whoL v l ((sortI (cutsG a b l)).getD (i - 1) 0) = keyB1 k then (sortI (cutsG a b l)).getD i 0 - (sortI (cutsG a b l)).getD (i - 1) 0 else 0) := by
  have hb1 := cuts_bd (l := l) hab (i := i - 1) (by omega)
  have hle := sort_le (sortI_sorted (cutsG a b l)) (show i - 1 ≤ i by omega) hi
  unfold wtK
  rw [sm_add hb1.1 hle]
  congr 1
  rw [sm_congr (g := fun _ => b2i (decide (whoL v l ((sortI (cutsG a b l)).getD (i - 1) 0) = keyB1 k))) (fun t h1 h2 => by rw [who_const hab h0 hi h1 h2]), sm_const hle]
  unfold b2i
  by_cases q : whoL v l ((sortI (cutsG a b l)).getD (i - 1) 0) = keyB1 k
  · rw [if_pos q, decide_eq_true q]; simp
  · rw [if_neg q, decide_eq_false q]; simp
/-- What the end of it is. -/
theorem wtK_other (hk : ∀ h ∈ l, h.key ≠ []) {k : List UInt8} (h0 : k ≠ []) (hn : ∀ h ∈ l, h.key ≠ k) (t : Int) (ht : a ≤ t) : wtK v l a k t = 0 := by
  unfold wtK
  rw [sm_congr (g := fun _ => 0) (fun u _ _ => by
    unfold b2i
    rw [decide_eq_false, if_neg (by simp)]
    intro e
    unfold keyB1 at e
    rw [if_neg h0] at e
    have : k ∈ whoL v l u := by rw [e]; simp
    obtain ⟨h, hh, hhk⟩ := List.mem_map.1 this
    exact hn h (List.mem_filter.1 hh).1 hhk), sm_const ht]; simp
theorem wtK_nil (hab : a ≤ b) (hs : ∀ h ∈ l, lgSeq h.legs) (hn : ¬ clash v a b l) : wtK v l a [] b = offi v a b l := (offi_sm hab hs hn).symm
theorem wtK_hire (hab : a ≤ b) (hs : ∀ h ∈ l, lgSeq h.legs) (hn : ¬ clash v a b l) (hk : l.Pairwise fun g h => g.key ≠ h.key) (hne : ∀ h ∈ l, h.key ≠ []) {h : Hir} (hm : h ∈ l) : wtK v l a h.key b = hadS v a b h := by
  rw [hadS_who hab hs hn hk hm]
  unfold wtK keyB1
  rw [if_neg (hne h hm)]
end
/-- Shares of right hires. -/
def wtsQ (v : List UInt8) (a b : Int) (l : List Hir) : List Pair := if a = b then [([], 1)] else wtsP v a b l
def wtQ (v : List UInt8) (a b : Int) (l : List Hir) (k : List UInt8) : Int := if a = b then (if k = [] then 1 else 0) else wtK v l a k b
theorem key_sorted {l : List Hir} (h : hirsE l = 0) : (∀ g ∈ l, g.key ≠ []) ∧ l.Pairwise fun g h => Op.bytesLess g.key h.key = true := by
  have hq := hirs_seq h
  refine ⟨fun g hg e => ?_, ?_⟩
  · have := hq.1 g hg
    unfold hirE at this
    rw [if_pos (.inl (by rw [e]; decide))] at this
    cases this
  · have next : ∀ i, i + 1 < l.length → Op.bytesLess (l.getD i hi0).key (l.getD (i + 1) hi0).key = true := fun i hi => by
      have := hq.2 (i + 1) (by omega) hi
      rw [Nat.add_sub_cancel] at this
      unfold strLe at this
      rw [Bool.or_eq_false_iff] at this
      exact less_tot this.1 (by simpa using this.2)
    have all : ∀ d i, i + d + 1 < l.length → Op.bytesLess (l.getD i hi0).key (l.getD (i + d + 1) hi0).key = true := by
      intro d
      induction d with
      | zero => intro i hi; exact next i hi
      | succ d ih => intro i hi; exact less_trans (ih i (by omega)) (next (i + d + 1) hi)
    rw [List.pairwise_iff_getElem]
    intro i j hi hj hij
    have := all (j - i - 1) i (by omega)
    rw [show i + (j - i - 1) + 1 = j by omega, List.getD_eq_getElem?_getD, List.getD_eq_getElem?_getD, List.getElem?_eq_getElem hi, List.getElem?_eq_getElem hj] at this
    exact this
theorem lessNil2 {k : List UInt8} (h : k ≠ []) : Op.bytesLess [] k = true := by cases k with | nil => exact absurd rfl h | cons x k => rfl
section
variable {v : List UInt8} {a b : Int} {l : List Hir}
theorem prts_sorted (hk : l.Pairwise fun g h => Op.bytesLess g.key h.key = true) : (prts v a b l).Pairwise fun p q => Op.bytesLess p.1 q.1 = true := by
  unfold prts
  refine List.Pairwise.filter _ ?_
  rw [List.pairwise_map]
  exact hk
theorem wtsQ_sorted (h0 : ∀ g ∈ l, g.key ≠ []) (hk : l.Pairwise fun g h => Op.bytesLess g.key h.key = true) : (wtsQ v a b l).Pairwise fun p q => Op.bytesLess p.1 q.1 = true := by
  unfold wtsQ
  split
  · simp
  · unfold wtsP
    split
    · rw [List.pairwise_cons]
      refine ⟨fun p hp => ?_, prts_sorted hk⟩
      obtain ⟨_, g, hg, e⟩ := prts_mem hp
      rw [e]; exact lessNil2 (h0 g hg)
    · exact prts_sorted hk
/-- The shares are those of positive weight. -/
theorem wtsQ_mem (hab : a ≤ b) (hs : ∀ h ∈ l, lgSeq h.legs) (hn : ¬ clash v a b l) (h0 : ∀ g ∈ l, g.key ≠ []) (hk : l.Pairwise fun g h => Op.bytesLess g.key h.key = true) (p : Pair) :
    p ∈ wtsQ v a b l ↔ 0 < wtQ v a b l p.1 ∧ p.2 = wtQ v a b l p.1 := by
  have hd : l.Pairwise fun g h => g.key ≠ h.key := hk.imp fun h e => by rw [e, less_irr] at h; cases h
  unfold wtsQ wtQ
  by_cases hE : a = b
  · rw [if_pos hE, if_pos hE]
    by_cases q : p.1 = []
    · rw [if_pos q]; simp [Prod.ext_iff, q]
    · rw [if_neg q]; simp [Prod.ext_iff, q]
  · rw [if_neg hE, if_neg hE]
    have inP : p ∈ prts v a b l ↔ p.1 ≠ [] ∧ 0 < wtK v l a p.1 b ∧ p.2 = wtK v l a p.1 b := by
      constructor
      · intro hp
        unfold prts at hp
        obtain ⟨h1, h2⟩ := List.mem_filter.1 hp
        obtain ⟨g, hg, rfl⟩ := List.mem_map.1 h1
        have := wtK_hire hab hs hn hd h0 hg
        refine ⟨h0 g hg, ?_, this.symm⟩
        show 0 < wtK v l a g.key b
        rw [this]; simpa using h2
      · rintro ⟨q1, q2, q3⟩
        by_cases hex : ∃ g ∈ l, g.key = p.1
        · obtain ⟨g, hg, e⟩ := hex
          have := wtK_hire hab hs hn hd h0 hg
          rw [e] at this
          unfold prts
          refine List.mem_filter.2 ⟨List.mem_map.2 ⟨g, hg, ?_⟩, by rw [q3]; simpa using q2⟩
          rw [← this, ← q3, e]
        · rw [wtK_other h0 q1 (fun g hg e => hex ⟨g, hg, e⟩) b hab] at q2
          omega
    have hnil := wtK_nil hab hs hn
    unfold wtsP
    by_cases ho : 0 < offi v a b l
    · rw [if_pos ho, List.mem_cons, inP]
      constructor
      · rintro (q | q)
        · rw [q]; show 0 < wtK v l a [] b ∧ offi v a b l = wtK v l a [] b
          rw [hnil]; exact ⟨ho, rfl⟩
        · exact q.2
      · rintro ⟨q1, q2⟩
        by_cases q : p.1 = []
        · left
          rw [q, hnil] at q2
          exact Prod.ext q q2
        · exact .inr ⟨q, q1, q2⟩
    · rw [if_neg ho, inP]
      constructor
      · exact fun q => q.2
      · rintro ⟨q1, q2⟩
        refine ⟨fun q => ?_, q1, q2⟩
        rw [q, hnil] at q1
        exact ho q1
end
theorem splitG_one {c : Int} (hc : 0 ≤ c) : splitG c [1] = [c] := by
  have hb := left_bound c [1] hc (by simp) (by simp)
  rw [splitG_eq c [1] hb]
  have e : splitE c [1] 0 = c := by
    unfold splitE
    have h1 : partG c [1] 0 = c := by simp [partG]
    have h2 : leftL c (partG c [1]) ([1] : List Int).length = 0 := by simp [leftL, h1]
    have h3 : 0 ≤ aheadG c [1] 0 ([1] : List Int).length := by
      unfold aheadG
      exact sum_nonneg fun x hx => by
        obtain ⟨k, _, rfl⟩ := List.mem_map.1 hx
        split <;> omega
    rw [h2, if_neg (by omega), h1]; omega
  simp [rngL, e]
theorem mkS_wtsQ {v : List UInt8} {a b c : Int} {l : List Hir} (hc : 0 ≤ c ∧ c ≤ 1000000000) (hn : ¬ clash v a b l) : blmE v a b l c = (mkS c (wtsQ v a b l), 0) := by
  unfold blmE wtsQ
  rw [if_neg hn, if_neg (by omega)]
  split
  · simp [mkS, splitG_one hc.1]
  · rfl
end Go.Proofs.YtcjfniddeibbhaaGreatDoor
set_option maxRecDepth 20000
namespace Go.Proofs.YtcjfniddeibbhaaGreatDoor
open Go Go.Eng
theorem Res.le_app2 {α : Type} {f : α → List DV} {d : α} {l : List α} {x y : α} {e k : Nat} {h : Nat → List DV} (h0 : h 0 = f x) (h1 : h 1 = f y) :
    Res.le (.buf e k (l.length + 2) (appGet l.length (rowF f d l) h)) (seqB e k f d (l ++ [x, y])) := Res.le_buf (by simp) (fun i hi => by
  rcases Nat.lt_or_ge i l.length with q | q
  · rw [appGet_lt q, rowF_lt q, rowF_lt (by simp; omega)]
    rw [List.getElem_append_left q]
  · rw [appGet_ge q, rowF_lt (by simp; omega), List.getElem_append_right q]
    by_cases q2 : i = l.length
    · subst q2; simp [h0]
    · have : i = l.length + 1 := by omega
      subst this; simp [h1])
theorem Res.le_mapBB {ag va : Bool} {ks : List KK} {zr : List DV} {has has' : List DV → Bool} {val val' : List DV → List DV} {clock : Nat} {kb : List (List DV × Nat)} (h : ∀ key, wk ks key = true → has key = has' key ∧ val key = val' key) :
    Res.le (.mapB ag va ks zr has val clock kb) (.mapB ag va ks zr has' val' clock kb) := ⟨rfl, fun G β w d hr => by
  obtain ⟨r, es, l, h1, h2, h3, h4, h5, h6, h7⟩ := hr
  refine ⟨r, es, l, h1, h2, h3, h4, h5, h6, fun key hk => ?_⟩
  have := h7 key hk
  rw [(h key hk).1, (h key hk).2] at this
  exact this⟩
def keyS : List DV → List UInt8
  | [.str s] => s
  | _ => []
theorem wk_str {K : List DV} (h : wk [.str] K = true) : ∃ s, K = [.str s] := by
  cases K with
  | nil => simp [wk] at h
  | cons x r =>
    cases r with
    | cons y r => simp [wk] at h
    | nil => cases x <;> simp [wk, wk1] at h; exact ⟨_, rfl⟩
abbrev mpW (g : List UInt8 → Int) : Res := .map false false [.str] [.int .i64 0] (fun K => decide (0 < g (keyS K))) (fun K => [.int .i64 (g (keyS K))])
theorem withK_one (v : List UInt8) (h : Hir) (t : Int) : withK v [h] t = if occ v h t = true then (h.key, true) else ([], false) := by
  unfold withK
  cases q : occ v h t with
  | true => rw [List.find?_cons_of_pos (by simpa using q)]; simp
  | false => rw [List.find?_cons_of_neg (by simp [q])]; simp
theorem keyB1_nil {k : List UInt8} : ([] : List (List UInt8)) = keyB1 k ↔ k = [] := by
  unfold keyB1; split <;> simp_all
theorem keyB1_one {k x : List UInt8} (hx : x ≠ []) : [x] = keyB1 k ↔ k = x := by
  unfold keyB1
  split
  · rename_i h; subst h; simp; exact hx
  · simp [eq_comm]
/-- A weight that grows. -/
theorem mpW_up {g g' : List UInt8 → Int} {x : List UInt8} {n : Int} (hn : 0 < n) (h0 : ∀ k, 0 ≤ g k) (hg : ∀ k, g' k = g k + (if k = x then n else 0)) :
    Res.le (.map false false [.str] [.int .i64 0] (fun q => keyEq q [.str x] || decide (0 < g (keyS q))) (fun q => bif keyEq q [.str x] then [.int .i64 (g x + n)] else [.int .i64 (g (keyS q))])) (mpW g') := Res.le_map fun K hK => by
  obtain ⟨s, rfl⟩ := wk_str hK
  have e : keyEq [.str s] [.str x] = decide (s = x) := by
    rw [Bool.eq_iff_iff]; simp [keyEq, keyEq1]
  rw [e]
  show (decide (s = x) || decide (0 < g s)) = decide (0 < g' s) ∧ (bif decide (s = x) then [DV.int .i64 (g x + n)] else [.int .i64 (g s)]) = [.int .i64 (g' s)]
  rw [hg s]
  by_cases q : s = x
  · subst q
    have := h0 s
    simp; omega
  · simp [q]
theorem filt_take {v : List UInt8} {l : List Hir} {t : Int} {j : Nat} (hj : j < l.length) : ((l.take (j + 1)).filter fun h => occ v h t).map (·.key) = ((l.take j).filter fun h => occ v h t).map (·.key) ++ (if occ v (l.getD j hi0) t = true then [(l.getD j hi0).key] else []) := by
  rw [take_snocD (d := hi0) hj, List.filter_append, List.map_append]
  congr 1
  by_cases q : occ v (l.getD j hi0) t = true
  · rw [if_pos q, List.filter_cons_of_pos (by simpa using q)]; rfl
  · rw [if_neg q, List.filter_cons_of_neg (by simpa using q)]; rfl
theorem cutA_take {a b : Int} {l : List Hir} {i : Nat} (hi : i < l.length) : (l.take (i + 1)).flatMap (cutH a b) = (l.take i).flatMap (cutH a b) ++ cutH a b (l.getD i hi0) := by
  rw [take_snocD (d := hi0) hi, List.flatMap_append]; simp
theorem cutH_len {a b : Int} : ∀ ls : List Leg, (ls.flatMap (cutL a b)).length = 2 * ls.length := by
  intro ls
  induction ls with
  | nil => rfl
  | cons x r ih => rw [List.flatMap_cons, List.length_append, ih]; simp [cutL]; omega
theorem cutA_len {a b : Int} : ∀ l : List Hir, (∀ h ∈ l, h.legs.length ≤ 3) → (l.flatMap (cutH a b)).length ≤ 6 * l.length := by
  intro l
  induction l with
  | nil => intro _; simp
  | cons h l ih =>
    intro hl
    rw [List.flatMap_cons, List.length_append]
    have h1 := ih (fun k hk => hl k (by simp [hk]))
    have h2 := hl h (by simp)
    have h3 : (cutH a b h).length = 2 * h.legs.length := cutH_len h.legs
    rw [h3, List.length_cons]; omega
theorem KB_congr {ks : List KK} {has has' : List DV → Bool} {clock : Nat} {kb : List (List DV × Nat)} (h : ∀ K, wk ks K = true → has K = has' K) (hk : KB ks has clock kb) : KB ks has' clock kb :=
  ⟨hk.kw, fun key hw => by rw [← h key hw]; exact hk.kh key hw, hk.ki, hk.kl, hk.kd⟩
theorem KB_stamp {ks : List KK} {has : List DV → Bool} {clock : Nat} {kb : List (List DV × Nat)} (hk : KB ks has clock kb) {p q : List DV × Nat} (hp : p ∈ kb) (hq : q ∈ kb) : (p.2 = q.2 ↔ p.1 = q.1) := by
  obtain ⟨i, hi, rfl⟩ := List.getElem_of_mem hp
  obtain ⟨j, hj, rfl⟩ := List.getElem_of_mem hq
  have h1 : ∀ i j (hi : i < kb.length) (hj : j < kb.length), i < j → kb[i].2 < kb[j].2 := fun i j hi hj hij => by
    have := List.pairwise_iff_getElem.1 hk.ki i j (by simpa using hi) (by simpa using hj) hij
    simpa using this
  have h2 : ∀ i j (hi : i < kb.length) (hj : j < kb.length), i < j → kb[i].1 ≠ kb[j].1 := fun i j hi hj hij e => by
    have := List.pairwise_iff_getElem.1 hk.kd i j (by simpa using hi) (by simpa using hj) hij
    rw [List.getElem_map, List.getElem_map, ← e, keyEq_refl (hk.kw _ (List.getElem_mem hi))] at this
    cases this
  rcases Nat.lt_trichotomy i j with c | c | c
  · have := h1 i j hi hj c
    exact ⟨fun e => by omega, fun e => absurd e (h2 i j hi hj c)⟩
  · subst c; exact ⟨fun _ => rfl, fun _ => rfl⟩
  · have := h1 j i hj hi c
    exact ⟨fun e => by omega, fun e => absurd e.symm (h2 j i hj hi c)⟩
section
variable {v : List UInt8} {a b : Int} {l : List Hir}
theorem wtQ_key (hab : a ≤ b) (hne : ∀ g ∈ l, g.key ≠ []) {k : List UInt8} (h : 0 < wtQ v a b l k) : k ∈ ([] : List UInt8) :: l.map (·.key) := by
  unfold wtQ at h
  by_cases q : k = []
  · rw [q]; simp
  · by_cases hE : a = b
    · rw [if_pos hE, if_neg q] at h; omega
    · rw [if_neg hE] at h
      refine List.mem_cons_of_mem _ (Classical.byContradiction fun q2 => ?_)
      rw [wtK_other hne q (fun g hg e => q2 (List.mem_map.2 ⟨g, hg, e⟩)) b hab] at h
      omega
theorem ksQ_len (hab : a ≤ b) (hne : ∀ g ∈ l, g.key ≠ []) {ks : List (List UInt8)} (hn : ks.Nodup) (h : ∀ k ∈ ks, 0 < wtQ v a b l k) : ks.length ≤ l.length + 1 := by
  have := nodup_len (m := ([] : List UInt8) :: l.map (·.key)) hn (fun k hk => wtQ_key hab hne (h k hk))
  simpa using this
theorem kbQ_len (hab : a ≤ b) (hne : ∀ g ∈ l, g.key ≠ []) {has : List DV → Bool} {clock : Nat} {kb : List (List DV × Nat)} (hh : ∀ K, wk [.str] K = true → has K = decide (0 < wtQ v a b l (keyS K))) (hk : KB [.str] has clock kb) : kb.length ≤ l.length + 1 := by
  have hn : (kb.map fun p => keyS p.1).Nodup := by
    rw [List.Nodup, List.pairwise_map]
    have := hk.kd
    rw [List.pairwise_map] at this
    refine List.Pairwise.imp_of_mem (fun {p q} hp hq h e => ?_) this
    obtain ⟨s, hs⟩ := wk_str (hk.kw p hp)
    obtain ⟨t, ht⟩ := wk_str (hk.kw q hq)
    rw [hs, ht] at e h
    have e : s = t := e
    rw [e, keyEq_refl (ks := [.str]) (by simp [wk, wk1])] at h; cases h
  have := ksQ_len hab hne hn (fun k hkm => by
    obtain ⟨p, hp, rfl⟩ := List.mem_map.1 hkm
    have h1 := (hk.kh p.1 (hk.kw p hp)).2 ⟨p.2, hp⟩
    rw [hh p.1 (hk.kw p hp)] at h1
    simpa using h1)
  simpa using this
theorem wtsQ_len : (wtsQ v a b l).length ≤ l.length + 1 := by
  have := prts_len v a b l
  unfold wtsQ wtsP
  split
  · simp
  · split
    · simp; omega
    · omega
theorem wtsQ_pos (hab : a ≤ b) (hs : ∀ h ∈ l, lgSeq h.legs) (hn : ¬ clash v a b l) : ((wtsQ v a b l).map (·.2)).sum ≠ 0 := by
  have h0 := wtK_nonneg (v := v) (l := l) (a := a) [] b
  rw [wtK_nil hab hs hn] at h0
  unfold wtsQ wtsP
  split
  · simp
  · split
    · rw [List.map_cons, List.sum_cons, prts_sum]
      unfold offi at *; omega
    · rw [prts_sum]
      unfold offi at *; omega
theorem wtQ_le (hab : (0 ≤ a ∧ a ≤ b) ∧ b ≤ 5761440) (k : List UInt8) : 0 ≤ wtQ v a b l k ∧ wtQ v a b l k ≤ 5761440 := by
  have h1 := wtK_nonneg (v := v) (l := l) (a := a) k b
  have h2 := wtK_le (v := v) (l := l) (a := a) k hab.1.2
  unfold wtQ
  split
  · split <;> omega
  · omega
/-- The keys of the weights, sorted. -/
theorem ksQ_sort (hab : a ≤ b) (hs : ∀ h ∈ l, lgSeq h.legs) (hn : ¬ clash v a b l) (hne : ∀ g ∈ l, g.key ≠ []) (hks : l.Pairwise fun g h => Op.bytesLess g.key h.key = true) {ks : List (List UInt8)} (hnd : ks.Nodup)
    (hk : ∀ k, k ∈ ks ↔ 0 < wtQ v a b l k) : isort (fun p q : Pair => cmpS p.1 q.1) (ks.map fun k => (k, 0)) = (wtsQ v a b l).map fun p => (p.1, 0) := by
  have hmem := wtsQ_mem hab hs hn hne hks
  refine uniq_sorted (fun p q : Pair => Op.bytesLess p.1 q.1 = true) (fun p => by rw [less_irr]; simp) (fun p q r => less_trans) ?_ ?_ (fun p => ?_)
  · refine isort_pairwise (fun p q : Pair => cmpS p.1 q.1) (fun p q : Pair => Op.bytesLess p.1 q.1 = true) (fun p q r => less_trans) _ ?_
    rw [List.pairwise_map]
    refine hnd.imp (fun {x y} hxy => ?_)
    show (cmpS y x < 0 → Op.bytesLess y x = true) ∧ (¬ cmpS y x < 0 → Op.bytesLess x y = true)
    unfold cmpS
    cases q : Op.bytesLess y x with
    | true => simp
    | false =>
      have := less_tot q (Ne.symm hxy)
      rw [this]; simp
  · rw [List.pairwise_map]
    exact (wtsQ_sorted hne hks).imp fun h => h
  · rw [(isort_perm _ _).mem_iff, List.mem_map, List.mem_map]
    constructor
    · rintro ⟨k, hkm, rfl⟩
      exact ⟨(k, wtQ v a b l k), (hmem _).2 ⟨(hk k).1 hkm, rfl⟩, rfl⟩
    · rintro ⟨q, hq, rfl⟩
      exact ⟨q.1, (hk _).2 ((hmem q).1 hq).1, rfl⟩
end
set_option maxHeartbeats 8000000 in
theorem z36 (v : List UInt8) (a b : Int) (hab : (0 ≤ a ∧ a ≤ b) ∧ b ≤ 5761440) (l : List Hir) (hl : allK (hiB 3) 5 l) (hh : hirsE l = 0) (c : Int) :
    FSpec Tryz.prog 36 [.d (.str v), .agg [.d (.int .i64 a), .d (.int .i64 b)], .d (hirs l), .d (.int .i64 c)] []
      (fun y r => blPost (blmE v a b l c) y ∧ r = []) := by
  obtain ⟨⟨ha0, hab⟩, hb0⟩ := hab
  have hl5 := hl.1
  have hl3 : ∀ h ∈ l, h.legs.length ≤ 3 := fun h hh => (hl.2 h hh).2.2.1
  have hseq : ∀ g ∈ l, lgSeq g.legs := fun g hg => lgSeq_of ((hirs_seq hh).1 g hg)
  obtain ⟨hne, hks⟩ := key_sorted hh
  have hA := cutA_len (a := a) (b := b) l hl3
  have c75 := s109 c 0 1000000000
  refine spec_of hT (C := [35]) Tryz.func36 rfl Tryz.call36 rfl rfl rfl ?_
  conv => whnf
  repeat' (first
    | (refine br_intro (fun hb => ?_) (fun hb => ?_) <;> (try simp only [decide_eq_true_eq, decide_eq_false_iff_not, Bool.not_eq_true', Bool.not_eq_false', Bool.and_eq_true, Bool.or_eq_true, beq_iff_eq, not_and, Int.not_le, Int.not_lt, Int.toNat_natCast, beq_eq_false_iff_ne, ne_eq, eq_self, not_true_eq_false, not_false_eq_true] at hb) <;> (conv => whnf))
    | (refine RegX.rule (id := 17) hT rfl [] [(0, []), (1, [0]), (2, []), (3, []), (4, [0, 1, 2, 3]), (5, [0, 1, 2, 3, 4]), (6, [0, 1, 2, 3, 4]), (7, [0, 1, 2, 3]), (8, [0, 1, 2, 3]), (9, []), (10, [])] (by decide +kernel) ?_; conv => whnf)
    | (refine RegX.rule (id := 23) hT rfl [] [(0, []), (1, []), (2, [0, 1]), (3, [0, 1, 2]), (4, [0, 1, 2, 3]), (5, [0, 1, 2, 3]), (6, [0, 1, 2]), (7, [0, 1, 2]), (8, []), (9, []), (10, []), (11, [10]), (12, [11]), (13, [])] (by decide +kernel) ?_; conv => whnf)
    | omega
    | (refine And.intro ?_ ?_; ((try dsimp only); first | omega | (refine ⟨by omega, by omega, Int.le_trans (Int.mul_le_mul_of_nonneg_right (Int.ofNat_le.2 (Nat.le_of_ble_eq_true (rfl : Nat.ble _ 1024 = true))) (by omega)) (by omega), by omega⟩) | (refine Nat.le_trans (Nat.mul_le_mul_left _ (Nat.le_of_ble_eq_true (rfl : Nat.ble _ 1024 = true))) ?_; omega) | (unfold inI64; omega) | (constructor <;> omega) | (simp only [inI64, List.length_cons, List.length_append, List.length_nil, List.length_set] at *; omega) | decide | (unfold inI64; decide)); conv => whnf)
    | omega | decide | assumption)
  refine LoopX.rule hT (C := [35]) (ι := Nat) (fun i => i ≤ l.length)
    (fun i => mkSt [(0, .d (.str v)), (2, .d (hirs l)), (3, .d (.int .i64 c)), (5, .ptr 5 0), (10, .buf 10), (36, .d (hirs l)), (37, .d (.int .i64 l.length)), (38, .d (.int .i64 i))] [(5, vwC (a, b)), (10, seqB 3 1 iF 0 ([a, b] ++ (l.take i).flatMap (cutH a b)))])
    (fun i => l.length - i) 0 (by omega) (by (refine Entails.mk' [(5, 5), (10, 35)] rfl rfl ?_ ?_ <;> repeat' (first | exact True.intro | exact SV.le_refl _ | exact Res.le_refl _ | (exact Res.le_lit rfl rfl) | exact SV.le_int (by omega) | exact SV.le_any _ | refine And.intro ?_ ?_)); done) ?_
  rintro i p1
  have e1 : (i : Int).toNat = i := Int.toNat_natCast i
  by_cases hi : i < l.length
  · have hH : hiB 3 (l.getD (i : Int).toNat hi0) := hl.2 _ (getD_mem (by omega))
    have hHl := hH.2.2.1
    have hAi := cutA_len (a := a) (b := b) (l.take i) (fun h hh => hl3 h (List.mem_of_mem_take hh))
    have hAi : ((l.take i).flatMap (cutH a b)).length ≤ 30 := by rw [List.length_take] at hAi; omega
    conv => whnf
    repeat' (first
      | (refine br_intro (fun hb => ?_) (fun hb => ?_) <;> (try simp only [decide_eq_true_eq, decide_eq_false_iff_not, Bool.not_eq_true', Bool.not_eq_false', Bool.and_eq_true, Bool.or_eq_true, beq_iff_eq, not_and, Int.not_le, Int.not_lt, Int.toNat_natCast, beq_eq_false_iff_ne, ne_eq, eq_self, not_true_eq_false, not_false_eq_true] at hb) <;> (conv => whnf))
      | (refine RegX.rule (id := 17) hT rfl [] [(0, []), (1, [0]), (2, []), (3, []), (4, [0, 1, 2, 3]), (5, [0, 1, 2, 3, 4]), (6, [0, 1, 2, 3, 4]), (7, [0, 1, 2, 3]), (8, [0, 1, 2, 3]), (9, []), (10, [])] (by decide +kernel) ?_; conv => whnf)
      | (refine RegX.rule (id := 23) hT rfl [] [(0, []), (1, []), (2, [0, 1]), (3, [0, 1, 2]), (4, [0, 1, 2, 3]), (5, [0, 1, 2, 3]), (6, [0, 1, 2]), (7, [0, 1, 2]), (8, []), (9, []), (10, []), (11, [10]), (12, [11]), (13, [])] (by decide +kernel) ?_; conv => whnf)
      | omega
      | (refine And.intro ?_ ?_; ((try dsimp only); first | omega | (refine ⟨by omega, by omega, Int.le_trans (Int.mul_le_mul_of_nonneg_right (Int.ofNat_le.2 (Nat.le_of_ble_eq_true (rfl : Nat.ble _ 1024 = true))) (by omega)) (by omega), by omega⟩) | (refine Nat.le_trans (Nat.mul_le_mul_left _ (Nat.le_of_ble_eq_true (rfl : Nat.ble _ 1024 = true))) ?_; omega) | (unfold inI64; omega) | (constructor <;> omega) | (simp only [inI64, List.length_cons, List.length_append, List.length_nil, List.length_set] at *; omega) | decide | (unfold inI64; decide)); conv => whnf)
      | omega | decide | assumption)
    · refine LoopX.rule hT (C := [35]) (ι := Nat) (fun k => k ≤ (l.getD (i : Int).toNat hi0).legs.length)
        (fun k => mkSt [(0, .d (.str v)), (2, .d (hirs l)), (3, .d (.int .i64 c)), (5, .ptr 5 0), (10, .buf 10), (36, .d (hirs l)), (37, .d (.int .i64 l.length)), (38, .d (.int .i64 i)), (43, .d (legs (l.getD (i : Int).toNat hi0).legs)), (44, .d (.int .i64 (l.getD (i : Int).toNat hi0).legs.length)), (45, .d (.int .i64 k))] [(5, vwC (a, b)), (10, seqB 3 1 iF 0 ([a, b] ++ (l.take i).flatMap (cutH a b) ++ ((l.getD (i : Int).toNat hi0).legs.take k).flatMap (cutL a b)))])
        (fun k => (l.getD (i : Int).toNat hi0).legs.length - k) 0 (by omega) (by (refine Entails.mk' [(5, 5), (10, 10)] rfl rfl ?_ ?_ <;> repeat' (first | exact True.intro | exact SV.le_refl _ | exact Res.le_refl _ | (exact Res.le_buf (by simp) (fun i hi => by simp)) | exact SV.le_int (by omega) | exact SV.le_any _ | refine And.intro ?_ ?_)); done) ?_
      rintro k q1
      have f1 : (k : Int).toNat = k := Int.toNat_natCast k
      have hkl := cutH_len (a := a) (b := b) ((l.getD (i : Int).toNat hi0).legs.take k)
      have hlen : ([a, b] ++ (l.take i).flatMap (cutH a b) ++ ((l.getD (i : Int).toNat hi0).legs.take k).flatMap (cutL a b)).length ≤ 40 := by
        rw [List.length_append, List.length_append, hkl, List.length_take]
        simp only [List.length_cons, List.length_nil]
        omega
      by_cases hkk : k < (l.getD (i : Int).toNat hi0).legs.length
      all_goals have hkk' := hkk
      all_goals rw [e1] at hkk'
      · conv => whnf
        repeat' (first
          | (refine CallX.exact (z101 ((l.getD (i : Int).toNat hi0).legs.getD (k : Int).toNat lg0)) rfl rfl ?_; rotate_right; conv => whnf)
          | (refine br_intro (fun hb => ?_) (fun hb => ?_) <;> (try simp only [decide_eq_true_eq, decide_eq_false_iff_not, Bool.not_eq_true', Bool.not_eq_false', Bool.and_eq_true, Bool.or_eq_true, beq_iff_eq, not_and, Int.not_le, Int.not_lt, Int.toNat_natCast, beq_eq_false_iff_ne, ne_eq, eq_self, not_true_eq_false, not_false_eq_true] at hb) <;> (conv => whnf))
          | (refine RegX.rule (id := 17) hT rfl [] [(0, []), (1, [0]), (2, []), (3, []), (4, [0, 1, 2, 3]), (5, [0, 1, 2, 3, 4]), (6, [0, 1, 2, 3, 4]), (7, [0, 1, 2, 3]), (8, [0, 1, 2, 3]), (9, []), (10, [])] (by decide +kernel) ?_; conv => whnf)
          | (refine RegX.rule (id := 23) hT rfl [] [(0, []), (1, []), (2, [0, 1]), (3, [0, 1, 2]), (4, [0, 1, 2, 3]), (5, [0, 1, 2, 3]), (6, [0, 1, 2]), (7, [0, 1, 2]), (8, []), (9, []), (10, []), (11, [10]), (12, [11]), (13, [])] (by decide +kernel) ?_; conv => whnf)
          | omega
          | (refine And.intro ?_ ?_; ((try dsimp only); first | omega | (refine ⟨by omega, by omega, Int.le_trans (Int.mul_le_mul_of_nonneg_right (Int.ofNat_le.2 (Nat.le_of_ble_eq_true (rfl : Nat.ble _ 1024 = true))) (by omega)) (by omega), by omega⟩) | (refine Nat.le_trans (Nat.mul_le_mul_left _ (Nat.le_of_ble_eq_true (rfl : Nat.ble _ 1024 = true))) ?_; omega) | (unfold inI64; omega) | (constructor <;> omega) | (simp only [inI64, List.length_cons, List.length_append, List.length_nil, List.length_set] at *; omega) | decide | (unfold inI64; decide)); conv => whnf)
          | omega | decide | assumption)
        all_goals try (exfalso; omega)
        refine ⟨k + 1, by omega, by omega, ?_⟩
        rw [show (l.getD (i : Int).toNat hi0).legs.take (k + 1) = _ from take_snocD (d := lg0) hkk, List.flatMap_append, ← List.append_assoc]
        refine Entails.mk' [(5, 5), (10, 69)] rfl rfl ⟨SV.le_refl _, SV.le_refl _, SV.le_refl _, SV.le_refl _, SV.le_refl _, SV.le_refl _, SV.le_refl _, SV.le_refl _, SV.le_refl _, SV.le_refl _, SV.le_int (by omega), trivial⟩ ⟨Res.le_refl _, ?_, trivial⟩
        rw [show ([(l.getD (i : Int).toNat hi0).legs.getD k lg0].flatMap (cutL a b)) = [clp a b ((l.getD (i : Int).toNat hi0).legs.getD k lg0).out.tm, clp a b (lastE ((l.getD (i : Int).toNat hi0).legs.getD k lg0))] by simp [cutL]]
        rw [← f1]
        exact Res.le_app2 rfl rfl
      · have hke : k = (l.getD (i : Int).toNat hi0).legs.length := by omega
        conv => whnf
        repeat' (first
          | (refine CallX.exact (z101 ((l.getD (i : Int).toNat hi0).legs.getD (k : Int).toNat lg0)) rfl rfl ?_; rotate_right; conv => whnf)
          | (refine br_intro (fun hb => ?_) (fun hb => ?_) <;> (try simp only [decide_eq_true_eq, decide_eq_false_iff_not, Bool.not_eq_true', Bool.not_eq_false', Bool.and_eq_true, Bool.or_eq_true, beq_iff_eq, not_and, Int.not_le, Int.not_lt, Int.toNat_natCast, beq_eq_false_iff_ne, ne_eq, eq_self, not_true_eq_false, not_false_eq_true] at hb) <;> (conv => whnf))
          | (refine RegX.rule (id := 17) hT rfl [] [(0, []), (1, [0]), (2, []), (3, []), (4, [0, 1, 2, 3]), (5, [0, 1, 2, 3, 4]), (6, [0, 1, 2, 3, 4]), (7, [0, 1, 2, 3]), (8, [0, 1, 2, 3]), (9, []), (10, [])] (by decide +kernel) ?_; conv => whnf)
          | (refine RegX.rule (id := 23) hT rfl [] [(0, []), (1, []), (2, [0, 1]), (3, [0, 1, 2]), (4, [0, 1, 2, 3]), (5, [0, 1, 2, 3]), (6, [0, 1, 2]), (7, [0, 1, 2]), (8, []), (9, []), (10, []), (11, [10]), (12, [11]), (13, [])] (by decide +kernel) ?_; conv => whnf)
          | omega
          | (refine And.intro ?_ ?_; ((try dsimp only); first | omega | (refine ⟨by omega, by omega, Int.le_trans (Int.mul_le_mul_of_nonneg_right (Int.ofNat_le.2 (Nat.le_of_ble_eq_true (rfl : Nat.ble _ 1024 = true))) (by omega)) (by omega), by omega⟩) | (refine Nat.le_trans (Nat.mul_le_mul_left _ (Nat.le_of_ble_eq_true (rfl : Nat.ble _ 1024 = true))) ?_; omega) | (unfold inI64; omega) | (constructor <;> omega) | (simp only [inI64, List.length_cons, List.length_append, List.length_nil, List.length_set] at *; omega) | decide | (unfold inI64; decide)); conv => whnf)
          | omega | decide | assumption)
        all_goals try (exfalso; omega)
        refine ⟨i + 1, by omega, by omega, ?_⟩
        rw [cutA_take hi, ← List.append_assoc, hke, List.take_length, e1]
        exact (by (refine Entails.mk' [(5, 5), (10, 10)] rfl rfl ?_ ?_ <;> repeat' (first | exact True.intro | exact SV.le_refl _ | exact Res.le_refl _ | exact SV.le_int (by omega) | exact SV.le_any _ | refine And.intro ?_ ?_)); done)
  · have hie : i = l.length := by omega
    rw [hie, List.take_length]
    have hCd : [a, b] ++ l.flatMap (cutH a b) = cutsG a b l := rfl
    rw [hCd]
    have hCl : (cutsG a b l).length ≤ 32 := by
      unfold cutsG
      rw [List.length_append]
      simp only [List.length_cons, List.length_nil]
      omega
    have hC2 := cuts_pos (a := a) (b := b) (l := l)
    rw [sortI_length] at hC2
    have hf := cuts_first (l := l) hab
    have hla := cuts_last (l := l) hab
    conv => whnf
    repeat' (first
      | (refine CallX.of (z102 (cutsG a b l) (by omega) (by omega)) [(1000001, 10)] rfl ⟨SV.le_refl _, trivial⟩ ⟨Res.le_refl _, trivial⟩ rfl rfl ?_; rintro y rout ⟨rfl, rfl⟩; refine ⟨rfl, ?_⟩; conv => whnf)
      | (refine br_intro (fun hb => ?_) (fun hb => ?_) <;> (try simp only [decide_eq_true_eq, decide_eq_false_iff_not, Bool.not_eq_true', Bool.not_eq_false', Bool.and_eq_true, Bool.or_eq_true, beq_iff_eq, not_and, Int.not_le, Int.not_lt, Int.toNat_natCast, beq_eq_false_iff_ne, ne_eq, eq_self, not_true_eq_false, not_false_eq_true] at hb) <;> (conv => whnf))
      | (refine RegX.rule (id := 17) hT rfl [] [(0, []), (1, [0]), (2, []), (3, []), (4, [0, 1, 2, 3]), (5, [0, 1, 2, 3, 4]), (6, [0, 1, 2, 3, 4]), (7, [0, 1, 2, 3]), (8, [0, 1, 2, 3]), (9, []), (10, [])] (by decide +kernel) ?_; conv => whnf)
      | (refine RegX.rule (id := 23) hT rfl [] [(0, []), (1, []), (2, [0, 1]), (3, [0, 1, 2]), (4, [0, 1, 2, 3]), (5, [0, 1, 2, 3]), (6, [0, 1, 2]), (7, [0, 1, 2]), (8, []), (9, []), (10, []), (11, [10]), (12, [11]), (13, [])] (by decide +kernel) ?_; conv => whnf)
      | omega
      | (refine And.intro ?_ ?_; ((try dsimp only); first | omega | (refine ⟨by omega, by omega, Int.le_trans (Int.mul_le_mul_of_nonneg_right (Int.ofNat_le.2 (Nat.le_of_ble_eq_true (rfl : Nat.ble _ 1024 = true))) (by omega)) (by omega), by omega⟩) | (refine Nat.le_trans (Nat.mul_le_mul_left _ (Nat.le_of_ble_eq_true (rfl : Nat.ble _ 1024 = true))) ?_; omega) | (unfold inI64; omega) | (constructor <;> omega) | (simp only [inI64, List.length_cons, List.length_append, List.length_nil, List.length_set] at *; omega) | decide | (unfold inI64; decide)); conv => whnf)
      | omega | decide | assumption)
    all_goals try (exfalso; omega)
    obtain ⟨C, hC⟩ : ∃ C, C = sortI (cutsG a b l) := ⟨_, rfl⟩
    have hClen : C.length = (cutsG a b l).length := by rw [hC, sortI_length]
    rw [← hC] at hf hla ⊢
    have hbd : ∀ i, i < C.length → a ≤ C.getD i 0 ∧ C.getD i 0 ≤ b := fun i hi => by rw [hC] at hi ⊢; exact cuts_bd hab hi
    have hmono : ∀ i, 0 < i → i < C.length → C.getD (i - 1) 0 ≤ C.getD i 0 := fun i h0 hi => by rw [hC] at hi ⊢; exact sort_le (sortI_sorted _) (by omega) hi
    have hstep : ∀ i, 0 < i → i < C.length → ∀ k, wtK v l a k (C.getD i 0) = wtK v l a k (C.getD (i - 1) 0) + (if whoL v l (C.getD (i - 1) 0) = keyB1 k then C.getD i 0 - C.getD (i - 1) 0 else 0) := fun i h0 hi k => by rw [hC] at hi ⊢; exact wtK_step hab h0 hi k
    have hwho : ∀ i, 0 < i → i < C.length → ∀ t, C.getD (i - 1) 0 ≤ t → t < C.getD i 0 → whoL v l t = whoL v l (C.getD (i - 1) 0) := fun i h0 hi t => by rw [hC] at hi ⊢; exact who_const hab h0 hi
    refine LoopX.rule hT (C := [35]) (ι := Nat) (fun i => (1 ≤ i ∧ i ≤ C.length) ∧ ∀ t, a ≤ t → t < C.getD (i - 1) 0 → (whoL v l t).length < 2)
      (fun i => mkSt [(0, .d (.str v)), (2, .d (hirs l)), (3, .d (.int .i64 c)), (5, .ptr 5 0), (10, .buf 10), (16, .mp 16), (17, .d (.int .i64 i))] [(5, vwC (a, b)), (10, seqB 3 1 iF 0 C), (16, mpW fun k => wtK v l a k (C.getD (i - 1) 0))])
      (fun i => C.length - i) 1 ⟨⟨by omega, by omega⟩, fun t h1 h2 => by rw [hf] at h2; omega⟩ (by (refine Entails.mk' [(5, 5), (10, 10), (16, 74)] rfl rfl ?_ ?_ <;> repeat' (first | exact True.intro | exact SV.le_refl _ | exact Res.le_refl _ | (refine Res.le_map fun K hK => ?_; rw [hf]; exact ⟨by simp [wtK, sm, smN], by simp [wtK, sm, smN]; rfl⟩) | exact SV.le_int (by omega) | exact SV.le_any _ | refine And.intro ?_ ?_)); done) ?_
    rintro i ⟨⟨p1, p2⟩, hno⟩
    have e1 : (i : Int).toNat = i := Int.toNat_natCast i
    have e2 : ((i : Int) - 1).toNat = i - 1 := by omega
    by_cases hi : i < C.length
    · have hb1 := hbd i hi
      have hb2 := hbd (i - 1) (by omega)
      have hm := hmono i p1 hi
      have hst := hstep i p1 hi
      have hwh := hwho i p1 hi
      have hI : inI64 (C.getD (i : Int).toNat 0 - C.getD ((i : Int) - 1).toNat 0) := by rw [e1, e2]; unfold inI64; omega
      conv => whnf
      repeat' (first
        | (refine And.intro hI ?_; conv => whnf)
        | (refine br_intro (fun hb => ?_) (fun hb => ?_) <;> (try simp only [decide_eq_true_eq, decide_eq_false_iff_not, Bool.not_eq_true', Bool.not_eq_false', Bool.and_eq_true, Bool.or_eq_true, beq_iff_eq, not_and, Int.not_le, Int.not_lt, Int.toNat_natCast, beq_eq_false_iff_ne, ne_eq, eq_self, not_true_eq_false, not_false_eq_true] at hb) <;> (conv => whnf))
        | (refine RegX.rule (id := 17) hT rfl [] [(0, []), (1, [0]), (2, []), (3, []), (4, [0, 1, 2, 3]), (5, [0, 1, 2, 3, 4]), (6, [0, 1, 2, 3, 4]), (7, [0, 1, 2, 3]), (8, [0, 1, 2, 3]), (9, []), (10, [])] (by decide +kernel) ?_; conv => whnf)
        | (refine RegX.rule (id := 23) hT rfl [] [(0, []), (1, []), (2, [0, 1]), (3, [0, 1, 2]), (4, [0, 1, 2, 3]), (5, [0, 1, 2, 3]), (6, [0, 1, 2]), (7, [0, 1, 2]), (8, []), (9, []), (10, []), (11, [10]), (12, [11]), (13, [])] (by decide +kernel) ?_; conv => whnf)
        | omega
        | (refine And.intro ?_ ?_; ((try dsimp only); first | omega | (refine ⟨by omega, by omega, Int.le_trans (Int.mul_le_mul_of_nonneg_right (Int.ofNat_le.2 (Nat.le_of_ble_eq_true (rfl : Nat.ble _ 1024 = true))) (by omega)) (by omega), by omega⟩) | (refine Nat.le_trans (Nat.mul_le_mul_left _ (Nat.le_of_ble_eq_true (rfl : Nat.ble _ 1024 = true))) ?_; omega) | (unfold inI64; omega) | (constructor <;> omega) | (simp only [inI64, List.length_cons, List.length_append, List.length_nil, List.length_set] at *; omega) | decide | (unfold inI64; decide)); conv => whnf)
        | omega | decide | assumption)
      all_goals try (exfalso; omega)
      · have h00 : C.getD i 0 = C.getD (i - 1) 0 := by rw [e2] at hb; omega
        exact ⟨i + 1, ⟨⟨by omega, by omega⟩, fun t h1 h2 => hno t h1 (by rw [Nat.add_sub_cancel, h00] at h2; exact h2)⟩, by omega, (by (refine Entails.mk' [(5, 5), (10, 10), (16, 16)] rfl rfl ?_ ?_ <;> repeat' (first | exact True.intro | exact SV.le_refl _ | exact Res.le_refl _ | (rw [Nat.add_sub_cancel, h00]; exact Res.le_refl _) | exact SV.le_int (by omega) | exact SV.le_any _ | refine And.intro ?_ ?_)); done)⟩
      have hlg : C.getD i 0 - C.getD (i - 1) 0 ≠ 0 := by rw [e2] at hb; exact hb
      have hlt : C.getD (i - 1) 0 < C.getD i 0 := by omega
      refine LoopX.rule hT (C := [35]) (ι := Nat) (fun j => j ≤ l.length)
        (fun j => mkSt [(0, .d (.str v)), (2, .d (hirs l)), (3, .d (.int .i64 c)), (5, .ptr 5 0), (10, .buf 10), (16, .mp 16), (17, .d (.int .i64 i)), (18, .d (.int .i64 (C.getD i 0 - C.getD (i - 1) 0))), (19, .buf 19), (93, .d (hirs l)), (94, .d (.int .i64 l.length)), (95, .d (.int .i64 j))] [(5, vwC (a, b)), (10, seqB 3 1 iF 0 C), (16, mpW fun k => wtK v l a k (C.getD (i - 1) 0)), (19, seqB 9 1 sF [] (((l.take j).filter fun h => occ v h (C.getD (i - 1) 0)).map (·.key)))])
        (fun j => l.length - j) 0 (by omega) ?_ ?_
      · exact (Entails.nil 19 19 9 1 (rowF sF [] []) rfl rfl (by decide)).trans (by (refine Entails.mk' [(5, 5), (10, 10), (16, 16), (19, 19)] rfl rfl ?_ ?_ <;> repeat' (first | exact True.intro | exact SV.le_refl _ | exact Res.le_refl _ | (exact SV.le_int (by rw [e1, e2])) | exact SV.le_int (by omega) | exact SV.le_any _ | refine And.intro ?_ ?_)); done)
      rintro j q1
      have f1 : (j : Int).toNat = j := Int.toNat_natCast j
      have hwl : (((l.take j).filter fun h => occ v h (C.getD (i - 1) 0)).map (·.key)).length ≤ 5 := by
        rw [List.length_map]
        have := List.length_filter_le (fun h => occ v h (C.getD (i - 1) 0)) (l.take j)
        rw [List.length_take] at this; omega
      by_cases hj : j < l.length
      · have hg : l.getD (j : Int).toNat hi0 ∈ l := getD_mem (by omega)
        have hgl := hl3 _ hg
        have cw := z103 [l.getD (j : Int).toNat hi0] (by simp) (fun h hh => by simp at hh; rw [hh]; exact hseq _ hg) (fun h hh => by rw [List.mem_singleton.1 hh]; omega) v (C.getD ((i : Int) - 1).toNat 0)
        rw [withK_one] at cw
        have hft := filt_take (v := v) (t := C.getD (i - 1) 0) hj
        cases ho : occ v (l.getD j hi0) (C.getD (i - 1) 0) with
        | true =>
          rw [f1, e2, ho, if_pos rfl] at cw
          rw [ho, if_pos rfl] at hft
          rw [← f1, ← e2] at cw
          conv => whnf
          repeat' (first
            | (refine CallX.pure cw ⟨SV.le_lit rfl rfl, SV.le_refl _, SV.le_refl _, trivial⟩ rfl ?_; conv => whnf)
            | (refine br_intro (fun hb => ?_) (fun hb => ?_) <;> (try simp only [decide_eq_true_eq, decide_eq_false_iff_not, Bool.not_eq_true', Bool.not_eq_false', Bool.and_eq_true, Bool.or_eq_true, beq_iff_eq, not_and, Int.not_le, Int.not_lt, Int.toNat_natCast, beq_eq_false_iff_ne, ne_eq, eq_self, not_true_eq_false, not_false_eq_true] at hb) <;> (conv => whnf))
            | (refine RegX.rule (id := 17) hT rfl [] [(0, []), (1, [0]), (2, []), (3, []), (4, [0, 1, 2, 3]), (5, [0, 1, 2, 3, 4]), (6, [0, 1, 2, 3, 4]), (7, [0, 1, 2, 3]), (8, [0, 1, 2, 3]), (9, []), (10, [])] (by decide +kernel) ?_; conv => whnf)
            | (refine RegX.rule (id := 23) hT rfl [] [(0, []), (1, []), (2, [0, 1]), (3, [0, 1, 2]), (4, [0, 1, 2, 3]), (5, [0, 1, 2, 3]), (6, [0, 1, 2]), (7, [0, 1, 2]), (8, []), (9, []), (10, []), (11, [10]), (12, [11]), (13, [])] (by decide +kernel) ?_; conv => whnf)
            | omega
            | (refine And.intro ?_ ?_; ((try dsimp only); first | omega | (refine ⟨by omega, by omega, Int.le_trans (Int.mul_le_mul_of_nonneg_right (Int.ofNat_le.2 (Nat.le_of_ble_eq_true (rfl : Nat.ble _ 1024 = true))) (by omega)) (by omega), by omega⟩) | (refine Nat.le_trans (Nat.mul_le_mul_left _ (Nat.le_of_ble_eq_true (rfl : Nat.ble _ 1024 = true))) ?_; omega) | (unfold inI64; omega) | (constructor <;> omega) | (simp only [inI64, List.length_cons, List.length_append, List.length_nil, List.length_set] at *; omega) | decide | (unfold inI64; decide)); conv => whnf)
            | omega | decide | assumption)
          all_goals try (exfalso; omega)
          refine ⟨j + 1, by omega, by omega, ?_⟩
          rw [hft]
          exact Entails.mk' [(5, 5), (10, 10), (16, 16), (19, 116)] rfl rfl ⟨SV.le_refl _, SV.le_refl _, SV.le_refl _, SV.le_refl _, SV.le_refl _, SV.le_refl _, SV.le_refl _, SV.le_refl _, SV.le_refl _, SV.le_refl _, SV.le_refl _, SV.le_int (by omega), trivial⟩ ⟨Res.le_refl _, Res.le_refl _, Res.le_refl _, Res.le_snocF (by rw [show l.getD j hi0 = l.getD (j : Int).toNat hi0 by rw [f1]]; rfl), trivial⟩
        | false =>
          rw [f1, e2, ho, if_neg (by simp)] at cw
          rw [ho, if_neg (by simp), List.append_nil] at hft
          rw [← f1, ← e2] at cw
          conv => whnf
          repeat' (first
            | (refine CallX.pure cw ⟨SV.le_lit rfl rfl, SV.le_refl _, SV.le_refl _, trivial⟩ rfl ?_; conv => whnf)
            | (refine br_intro (fun hb => ?_) (fun hb => ?_) <;> (try simp only [decide_eq_true_eq, decide_eq_false_iff_not, Bool.not_eq_true', Bool.not_eq_false', Bool.and_eq_true, Bool.or_eq_true, beq_iff_eq, not_and, Int.not_le, Int.not_lt, Int.toNat_natCast, beq_eq_false_iff_ne, ne_eq, eq_self, not_true_eq_false, not_false_eq_true] at hb) <;> (conv => whnf))
            | (refine RegX.rule (id := 17) hT rfl [] [(0, []), (1, [0]), (2, []), (3, []), (4, [0, 1, 2, 3]), (5, [0, 1, 2, 3, 4]), (6, [0, 1, 2, 3, 4]), (7, [0, 1, 2, 3]), (8, [0, 1, 2, 3]), (9, []), (10, [])] (by decide +kernel) ?_; conv => whnf)
            | (refine RegX.rule (id := 23) hT rfl [] [(0, []), (1, []), (2, [0, 1]), (3, [0, 1, 2]), (4, [0, 1, 2, 3]), (5, [0, 1, 2, 3]), (6, [0, 1, 2]), (7, [0, 1, 2]), (8, []), (9, []), (10, []), (11, [10]), (12, [11]), (13, [])] (by decide +kernel) ?_; conv => whnf)
            | omega
            | (refine And.intro ?_ ?_; ((try dsimp only); first | omega | (refine ⟨by omega, by omega, Int.le_trans (Int.mul_le_mul_of_nonneg_right (Int.ofNat_le.2 (Nat.le_of_ble_eq_true (rfl : Nat.ble _ 1024 = true))) (by omega)) (by omega), by omega⟩) | (refine Nat.le_trans (Nat.mul_le_mul_left _ (Nat.le_of_ble_eq_true (rfl : Nat.ble _ 1024 = true))) ?_; omega) | (unfold inI64; omega) | (constructor <;> omega) | (simp only [inI64, List.length_cons, List.length_append, List.length_nil, List.length_set] at *; omega) | decide | (unfold inI64; decide)); conv => whnf)
            | omega | decide | assumption)
          all_goals try (exfalso; omega)
          refine ⟨j + 1, by omega, by omega, ?_⟩
          rw [hft]
          exact (by (refine Entails.mk' [(5, 5), (10, 10), (16, 16), (19, 19)] rfl rfl ?_ ?_ <;> repeat' (first | exact True.intro | exact SV.le_refl _ | exact Res.le_refl _ | exact SV.le_int (by omega) | exact SV.le_any _ | refine And.intro ?_ ?_)); done)
      · have hje : j = l.length := by omega
        have hSd : ((l.take j).filter fun h => occ v h (C.getD (i - 1) 0)).map (·.key) = whoL v l (C.getD (i - 1) 0) := by rw [hje, List.take_length]; rfl
        have hin : ∀ x ∈ whoL v l (C.getD (i - 1) 0), x ≠ [] := fun x hx => by
          obtain ⟨g, hg, rfl⟩ := List.mem_map.1 hx
          exact hne g (List.mem_filter.1 hg).1
        have hw0 := fun k => wtK_nonneg (v := v) (a := a) (l := l) k (C.getD (i - 1) 0)
        have hw1 := fun k => wtK_le (v := v) (a := a) (l := l) k (t := C.getD (i - 1) 0) hb2.1
        have hI2 : ∀ k, inI64 (wtK v l a k (C.getD (i - 1) 0) + (C.getD i 0 - C.getD (i - 1) 0)) := fun k => by
          have := hw0 k
          have := hw1 k
          unfold inI64; omega
        have hclash : 2 ≤ (whoL v l (C.getD (i - 1) 0)).length → clash v a b l := fun q => ⟨_, hb2.1, by omega, q⟩
        have hno2 : (whoL v l (C.getD (i - 1) 0)).length < 2 → ∀ t, a ≤ t → t < C.getD (i + 1 - 1) 0 → (whoL v l t).length < 2 := fun q t h1 h2 => by
          rw [Nat.add_sub_cancel] at h2
          rcases Int.lt_or_le t (C.getD (i - 1) 0) with c | c
          · exact hno t h1 c
          · rw [hwh t c h2]; exact q
        rw [hSd]
        rw [hSd] at hwl
        generalize hS : whoL v l (C.getD (i - 1) 0) = S at hst hwl hin hclash hno2 ⊢
        match S, hst, hwl, hin, hclash, hno2 with
        | [], hst, hwl, hin, hclash, hno2 =>
          conv => whnf
          repeat' (first
            | (refine And.intro (hI2 _) ?_; conv => whnf)
            | (refine br_intro (fun hb => ?_) (fun hb => ?_) <;> (try simp only [decide_eq_true_eq, decide_eq_false_iff_not, Bool.not_eq_true', Bool.not_eq_false', Bool.and_eq_true, Bool.or_eq_true, beq_iff_eq, not_and, Int.not_le, Int.not_lt, Int.toNat_natCast, beq_eq_false_iff_ne, ne_eq, eq_self, not_true_eq_false, not_false_eq_true] at hb) <;> (conv => whnf))
            | (refine RegX.rule (id := 17) hT rfl [] [(0, []), (1, [0]), (2, []), (3, []), (4, [0, 1, 2, 3]), (5, [0, 1, 2, 3, 4]), (6, [0, 1, 2, 3, 4]), (7, [0, 1, 2, 3]), (8, [0, 1, 2, 3]), (9, []), (10, [])] (by decide +kernel) ?_; conv => whnf)
            | (refine RegX.rule (id := 23) hT rfl [] [(0, []), (1, []), (2, [0, 1]), (3, [0, 1, 2]), (4, [0, 1, 2, 3]), (5, [0, 1, 2, 3]), (6, [0, 1, 2]), (7, [0, 1, 2]), (8, []), (9, []), (10, []), (11, [10]), (12, [11]), (13, [])] (by decide +kernel) ?_; conv => whnf)
            | omega
            | (refine And.intro ?_ ?_; ((try dsimp only); first | omega | (refine ⟨by omega, by omega, Int.le_trans (Int.mul_le_mul_of_nonneg_right (Int.ofNat_le.2 (Nat.le_of_ble_eq_true (rfl : Nat.ble _ 1024 = true))) (by omega)) (by omega), by omega⟩) | (refine Nat.le_trans (Nat.mul_le_mul_left _ (Nat.le_of_ble_eq_true (rfl : Nat.ble _ 1024 = true))) ?_; omega) | (unfold inI64; omega) | (constructor <;> omega) | (simp only [inI64, List.length_cons, List.length_append, List.length_nil, List.length_set] at *; omega) | decide | (unfold inI64; decide)); conv => whnf)
            | omega | decide | assumption)
          all_goals try (exfalso; first | omega | (simp at hb; done))
          refine ⟨i + 1, ⟨⟨by omega, by omega⟩, hno2 (by simp)⟩, by omega, ?_⟩
          refine Entails.mk' [(5, 5), (10, 10), (16, 16)] rfl rfl ⟨SV.le_refl _, SV.le_refl _, SV.le_refl _, SV.le_refl _, SV.le_refl _, SV.le_refl _, SV.le_int (by omega), trivial⟩ ⟨Res.le_refl _, Res.le_refl _, ?_, trivial⟩
          rw [Nat.add_sub_cancel]
          exact mpW_up (g := fun k => wtK v l a k (C.getD (i - 1) 0)) (g' := fun k => wtK v l a k (C.getD i 0)) (x := []) (n := C.getD i 0 - C.getD (i - 1) 0) (by omega) hw0 (fun k => by show wtK v l a k (C.getD i 0) = wtK v l a k (C.getD (i - 1) 0) + _; rw [hst k]; congr 1; simp only [keyB1_nil])
        | [x], hst, hwl, hin, hclash, hno2 =>
          conv => whnf
          repeat' (first
            | (refine And.intro (hI2 _) ?_; conv => whnf)
            | (refine br_intro (fun hb => ?_) (fun hb => ?_) <;> (try simp only [decide_eq_true_eq, decide_eq_false_iff_not, Bool.not_eq_true', Bool.not_eq_false', Bool.and_eq_true, Bool.or_eq_true, beq_iff_eq, not_and, Int.not_le, Int.not_lt, Int.toNat_natCast, beq_eq_false_iff_ne, ne_eq, eq_self, not_true_eq_false, not_false_eq_true] at hb) <;> (conv => whnf))
            | (refine RegX.rule (id := 17) hT rfl [] [(0, []), (1, [0]), (2, []), (3, []), (4, [0, 1, 2, 3]), (5, [0, 1, 2, 3, 4]), (6, [0, 1, 2, 3, 4]), (7, [0, 1, 2, 3]), (8, [0, 1, 2, 3]), (9, []), (10, [])] (by decide +kernel) ?_; conv => whnf)
            | (refine RegX.rule (id := 23) hT rfl [] [(0, []), (1, []), (2, [0, 1]), (3, [0, 1, 2]), (4, [0, 1, 2, 3]), (5, [0, 1, 2, 3]), (6, [0, 1, 2]), (7, [0, 1, 2]), (8, []), (9, []), (10, []), (11, [10]), (12, [11]), (13, [])] (by decide +kernel) ?_; conv => whnf)
            | omega
            | (refine And.intro ?_ ?_; ((try dsimp only); first | omega | (refine ⟨by omega, by omega, Int.le_trans (Int.mul_le_mul_of_nonneg_right (Int.ofNat_le.2 (Nat.le_of_ble_eq_true (rfl : Nat.ble _ 1024 = true))) (by omega)) (by omega), by omega⟩) | (refine Nat.le_trans (Nat.mul_le_mul_left _ (Nat.le_of_ble_eq_true (rfl : Nat.ble _ 1024 = true))) ?_; omega) | (unfold inI64; omega) | (constructor <;> omega) | (simp only [inI64, List.length_cons, List.length_append, List.length_nil, List.length_set] at *; omega) | decide | (unfold inI64; decide)); conv => whnf)
            | omega | decide | assumption)
          all_goals try (exfalso; first | omega | (simp at hb; done))
          refine ⟨i + 1, ⟨⟨by omega, by omega⟩, hno2 (by simp)⟩, by omega, ?_⟩
          refine Entails.mk' [(5, 5), (10, 10), (16, 16)] rfl rfl ⟨SV.le_refl _, SV.le_refl _, SV.le_refl _, SV.le_refl _, SV.le_refl _, SV.le_refl _, SV.le_int (by omega), trivial⟩ ⟨Res.le_refl _, Res.le_refl _, ?_, trivial⟩
          rw [Nat.add_sub_cancel]
          exact mpW_up (g := fun k => wtK v l a k (C.getD (i - 1) 0)) (g' := fun k => wtK v l a k (C.getD i 0)) (x := x) (n := C.getD i 0 - C.getD (i - 1) 0) (by omega) hw0 (fun k => by show wtK v l a k (C.getD i 0) = wtK v l a k (C.getD (i - 1) 0) + _; rw [hst k]; congr 1; simp only [keyB1_one (hin x (by simp))])
        | x :: y :: r, hst, hwl, hin, hclash, hno2 =>
          conv => whnf
          repeat' (first
            | (refine And.intro (hI2 _) ?_; conv => whnf)
            | (refine br_intro (fun hb => ?_) (fun hb => ?_) <;> (try simp only [decide_eq_true_eq, decide_eq_false_iff_not, Bool.not_eq_true', Bool.not_eq_false', Bool.and_eq_true, Bool.or_eq_true, beq_iff_eq, not_and, Int.not_le, Int.not_lt, Int.toNat_natCast, beq_eq_false_iff_ne, ne_eq, eq_self, not_true_eq_false, not_false_eq_true] at hb) <;> (conv => whnf))
            | (refine RegX.rule (id := 17) hT rfl [] [(0, []), (1, [0]), (2, []), (3, []), (4, [0, 1, 2, 3]), (5, [0, 1, 2, 3, 4]), (6, [0, 1, 2, 3, 4]), (7, [0, 1, 2, 3]), (8, [0, 1, 2, 3]), (9, []), (10, [])] (by decide +kernel) ?_; conv => whnf)
            | (refine RegX.rule (id := 23) hT rfl [] [(0, []), (1, []), (2, [0, 1]), (3, [0, 1, 2]), (4, [0, 1, 2, 3]), (5, [0, 1, 2, 3]), (6, [0, 1, 2]), (7, [0, 1, 2]), (8, []), (9, []), (10, []), (11, [10]), (12, [11]), (13, [])] (by decide +kernel) ?_; conv => whnf)
            | omega
            | (refine And.intro ?_ ?_; ((try dsimp only); first | omega | (refine ⟨by omega, by omega, Int.le_trans (Int.mul_le_mul_of_nonneg_right (Int.ofNat_le.2 (Nat.le_of_ble_eq_true (rfl : Nat.ble _ 1024 = true))) (by omega)) (by omega), by omega⟩) | (refine Nat.le_trans (Nat.mul_le_mul_left _ (Nat.le_of_ble_eq_true (rfl : Nat.ble _ 1024 = true))) ?_; omega) | (unfold inI64; omega) | (constructor <;> omega) | (simp only [inI64, List.length_cons, List.length_append, List.length_nil, List.length_set] at *; omega) | decide | (unfold inI64; decide)); conv => whnf)
            | omega | decide | assumption)
          all_goals try (exfalso; first | omega | (simp at hb; done) | (simp at hb; omega))
          refine .weak _ ?_
          conv => whnf
          refine ⟨.tup [.d (pairs []), .d (.int .i64 13)], [], SV.le_tup ⟨SV.le_nilS, SV.le_refl _, trivial⟩, ⟨?_, rfl⟩, trivial⟩
          unfold blPost blmE
          rw [if_pos (hclash (by simp))]
    · have hie : i = C.length := by omega
      rw [hie, hla] at hno
      rw [hie, hla]
      have hnc : ¬ clash v a b l := fun ⟨t, h1, h2, h3⟩ => by have := hno t h1 h2; omega
      have hmq := wtsQ_mem hab hseq hnc hne hks
      have hE0 : a = b → ∀ k, wtK v l a k b = 0 := fun q k => by subst q; simp [wtK, sm, smN]
      have hM1 : a = b → ∀ K, wk [.str] K = true → (keyEq K [.str []] || decide (0 < wtK v l a (keyS K) b)) = decide (0 < wtQ v a b l (keyS K)) ∧ (bif keyEq K [.str []] then [DV.int .i64 1] else [.int .i64 (wtK v l a (keyS K) b)]) = [.int .i64 (wtQ v a b l (keyS K))] := fun q K hK => by
        obtain ⟨s, rfl⟩ := wk_str hK
        have e : keyEq [.str s] [.str []] = decide (s = []) := by rw [Bool.eq_iff_iff]; simp [keyEq, keyEq1]
        rw [e]
        show (decide (s = []) || decide (0 < wtK v l a s b)) = decide (0 < wtQ v a b l s) ∧ (bif decide (s = []) then [DV.int .i64 1] else [.int .i64 (wtK v l a s b)]) = [.int .i64 (wtQ v a b l s)]
        rw [hE0 q]
        unfold wtQ
        rw [if_pos q]
        by_cases q2 : s = []
        · rw [if_pos q2, decide_eq_true q2]; simp
        · rw [if_neg q2, decide_eq_false q2]; simp
      have hM2 : a ≠ b → ∀ K, wk [.str] K = true → decide (0 < wtK v l a (keyS K) b) = decide (0 < wtQ v a b l (keyS K)) ∧ [DV.int .i64 (wtK v l a (keyS K) b)] = [.int .i64 (wtQ v a b l (keyS K))] := fun q K hK => by
        unfold wtQ; rw [if_neg q]; exact ⟨rfl, rfl⟩
      by_cases hc : 0 ≤ c ∧ c ≤ 1000000000
      · rw [decide_eq_true hc] at c75
        have hres := mkS_wtsQ hc hnc
        by_cases hE : a = b
        all_goals
          first
            | have hMB := hM1 hE
            | have hMB := hM2 hE
          clear hM1 hM2
          conv => whnf
          repeat' (first
            | (refine CallX.exact (c75) rfl rfl ?_; rotate_right; conv => whnf)
            | (intro clock kb hkb; have hkl := kbQ_len hab hne (fun K hK => (hMB K hK).1) hkb; conv => whnf)
            | (refine br_intro (fun hb => ?_) (fun hb => ?_) <;> (try simp only [decide_eq_true_eq, decide_eq_false_iff_not, Bool.not_eq_true', Bool.not_eq_false', Bool.and_eq_true, Bool.or_eq_true, beq_iff_eq, not_and, Int.not_le, Int.not_lt, Int.toNat_natCast, beq_eq_false_iff_ne, ne_eq, eq_self, not_true_eq_false, not_false_eq_true] at hb) <;> (conv => whnf))
            | (refine RegX.rule (id := 17) hT rfl [] [(0, []), (1, [0]), (2, []), (3, []), (4, [0, 1, 2, 3]), (5, [0, 1, 2, 3, 4]), (6, [0, 1, 2, 3, 4]), (7, [0, 1, 2, 3]), (8, [0, 1, 2, 3]), (9, []), (10, [])] (by decide +kernel) ?_; conv => whnf)
            | (refine RegX.rule (id := 23) hT rfl [] [(0, []), (1, []), (2, [0, 1]), (3, [0, 1, 2]), (4, [0, 1, 2, 3]), (5, [0, 1, 2, 3]), (6, [0, 1, 2]), (7, [0, 1, 2]), (8, []), (9, []), (10, []), (11, [10]), (12, [11]), (13, [])] (by decide +kernel) ?_; conv => whnf)
            | omega
            | (refine And.intro ?_ ?_; ((try dsimp only); first | omega | (refine ⟨by omega, by omega, Int.le_trans (Int.mul_le_mul_of_nonneg_right (Int.ofNat_le.2 (Nat.le_of_ble_eq_true (rfl : Nat.ble _ 1024 = true))) (by omega)) (by omega), by omega⟩) | (refine Nat.le_trans (Nat.mul_le_mul_left _ (Nat.le_of_ble_eq_true (rfl : Nat.ble _ 1024 = true))) ?_; omega) | (unfold inI64; omega) | (constructor <;> omega) | (simp only [inI64, List.length_cons, List.length_append, List.length_nil, List.length_set] at *; omega) | decide | (unfold inI64; decide)); conv => whnf)
            | omega | decide | assumption)
          all_goals try (exfalso; omega)
          have hkq := KB_congr (fun K hK => (hMB K hK).1) hkb
          refine LoopX.rule hT (C := [35]) (ι := List Nat × List (List UInt8)) (fun (seen, ks) => ks.Nodup ∧ (∀ k b', ([DV.str k], b') ∈ kb → (b' ∈ seen ↔ k ∈ ks)) ∧ ∀ k ∈ ks, 0 < wtQ v a b l k)
            (fun (seen, ks) => mkSt [(3, .d (.int .i64 c)), (16, .mp 16), (24, .buf 24), (25, .d .nilsl), (148, .ptr 148 0)] [(16, .mapB false false [.str] [.int .i64 0] (fun K => decide (0 < wtQ v a b l (keyS K))) (fun K => [.int .i64 (wtQ v a b l (keyS K))]) clock kb), (24, shB (ks.map fun k => (k, 0))), (148, .iter 16 clock seen)])
            (fun (seen, _) => (kb.filter fun p => !seen.contains p.2).length) ([], []) ⟨by simp, by simp, by simp⟩ ?_ ?_
          · exact (Entails.nil 24 24 74 2 (rowF pF ([], 0) []) rfl rfl (by decide)).trans (by (refine Entails.mk' [(16, 16), (24, 24), (148, 148)] rfl rfl ?_ ?_ <;> repeat' (first | exact True.intro | exact SV.le_refl _ | exact Res.le_refl _ | (exact Res.le_mapBB hMB) | exact SV.le_int (by omega) | exact SV.le_any _ | refine And.intro ?_ ?_)); done)
          rintro ⟨seen, ks⟩ ⟨g1, g2, g3⟩
          have g1 : ks.Nodup := g1
          have g2 : ∀ k b', ([DV.str k], b') ∈ kb → (b' ∈ seen ↔ k ∈ ks) := g2
          have g3 : ∀ k ∈ ks, 0 < wtQ v a b l k := g3
          have hkl2 := ksQ_len hab hne g1 g3
          have hml : (ks.map fun k => ((k, 0) : Pair)).length = ks.length := by simp
          conv => whnf
          repeat' (first
            | (refine br_intro (fun hb => ?_) (fun hb => ?_) <;> (try simp only [decide_eq_true_eq, decide_eq_false_iff_not, Bool.not_eq_true', Bool.not_eq_false', Bool.and_eq_true, Bool.or_eq_true, beq_iff_eq, not_and, Int.not_le, Int.not_lt, Int.toNat_natCast, beq_eq_false_iff_ne, ne_eq, eq_self, not_true_eq_false, not_false_eq_true] at hb) <;> (conv => whnf))
            | (refine RegX.rule (id := 17) hT rfl [] [(0, []), (1, [0]), (2, []), (3, []), (4, [0, 1, 2, 3]), (5, [0, 1, 2, 3, 4]), (6, [0, 1, 2, 3, 4]), (7, [0, 1, 2, 3]), (8, [0, 1, 2, 3]), (9, []), (10, [])] (by decide +kernel) ?_; conv => whnf)
            | (refine RegX.rule (id := 23) hT rfl [] [(0, []), (1, []), (2, [0, 1]), (3, [0, 1, 2]), (4, [0, 1, 2, 3]), (5, [0, 1, 2, 3]), (6, [0, 1, 2]), (7, [0, 1, 2]), (8, []), (9, []), (10, []), (11, [10]), (12, [11]), (13, [])] (by decide +kernel) ?_; conv => whnf)
            | omega
            | (refine And.intro ?_ ?_; ((try dsimp only); first | omega | (refine ⟨by omega, by omega, Int.le_trans (Int.mul_le_mul_of_nonneg_right (Int.ofNat_le.2 (Nat.le_of_ble_eq_true (rfl : Nat.ble _ 1024 = true))) (by omega)) (by omega), by omega⟩) | (refine Nat.le_trans (Nat.mul_le_mul_left _ (Nat.le_of_ble_eq_true (rfl : Nat.ble _ 1024 = true))) ?_; omega) | (unfold inI64; omega) | (constructor <;> omega) | (simp only [inI64, List.length_cons, List.length_append, List.length_nil, List.length_set] at *; omega) | decide | (unfold inI64; decide)); conv => whnf)
            | omega | decide | assumption)
          refine ⟨rfl, fun key b' hkb1 hseen => ?_, fun hall => ?_⟩
          · obtain ⟨s, rfl⟩ := wk_str (hkb.kw _ hkb1)
            have hs0 : 0 < wtQ v a b l s := by
              have := (hkq.kh _ (hkq.kw _ hkb1)).2 ⟨_, hkb1⟩
              exact of_decide_eq_true (this : decide (0 < wtQ v a b l s) = true)
            have hsn : s ∉ ks := fun q => hseen ((g2 s b' hkb1).2 q)
            conv => whnf
            repeat' (first
              | (refine ⟨rfl, _, hkb1, ?_⟩; conv => whnf)
              | (refine br_intro (fun hb => ?_) (fun hb => ?_) <;> (try simp only [decide_eq_true_eq, decide_eq_false_iff_not, Bool.not_eq_true', Bool.not_eq_false', Bool.and_eq_true, Bool.or_eq_true, beq_iff_eq, not_and, Int.not_le, Int.not_lt, Int.toNat_natCast, beq_eq_false_iff_ne, ne_eq, eq_self, not_true_eq_false, not_false_eq_true] at hb) <;> (conv => whnf))
              | (refine RegX.rule (id := 17) hT rfl [] [(0, []), (1, [0]), (2, []), (3, []), (4, [0, 1, 2, 3]), (5, [0, 1, 2, 3, 4]), (6, [0, 1, 2, 3, 4]), (7, [0, 1, 2, 3]), (8, [0, 1, 2, 3]), (9, []), (10, [])] (by decide +kernel) ?_; conv => whnf)
              | (refine RegX.rule (id := 23) hT rfl [] [(0, []), (1, []), (2, [0, 1]), (3, [0, 1, 2]), (4, [0, 1, 2, 3]), (5, [0, 1, 2, 3]), (6, [0, 1, 2]), (7, [0, 1, 2]), (8, []), (9, []), (10, []), (11, [10]), (12, [11]), (13, [])] (by decide +kernel) ?_; conv => whnf)
              | omega
              | (refine And.intro ?_ ?_; ((try dsimp only); first | omega | (refine ⟨by omega, by omega, Int.le_trans (Int.mul_le_mul_of_nonneg_right (Int.ofNat_le.2 (Nat.le_of_ble_eq_true (rfl : Nat.ble _ 1024 = true))) (by omega)) (by omega), by omega⟩) | (refine Nat.le_trans (Nat.mul_le_mul_left _ (Nat.le_of_ble_eq_true (rfl : Nat.ble _ 1024 = true))) ?_; omega) | (unfold inI64; omega) | (constructor <;> omega) | (simp only [inI64, List.length_cons, List.length_append, List.length_nil, List.length_set] at *; omega) | decide | (unfold inI64; decide)); conv => whnf)
              | omega | decide | assumption)
            refine ⟨(b' :: seen, ks ++ [s]), ⟨?_, fun k b2 hk2 => ?_, fun k hk => ?_⟩, ?_, ?_⟩
            · rw [List.nodup_append]
              exact ⟨g1, by simp, fun x hx y hy => by simp at hy; subst hy; exact fun e => hsn (by rw [← e]; exact hx)⟩
            · have hst := KB_stamp hkb hk2 hkb1
              simp only [List.mem_cons, List.mem_append, List.not_mem_nil, or_false]
              rw [g2 k b2 hk2]
              have : b2 = b' ↔ k = s := by rw [show (b2 = b') = ((([DV.str k], b2) : List DV × Nat).2 = (([DV.str s], b') : List DV × Nat).2) from rfl, hst]; simp
              rw [this]
              exact or_comm
            · rcases List.mem_append.1 hk with q | q
              · exact g3 k q
              · simp at q; subst q; exact hs0
            · show (kb.filter fun p => !(b' :: seen).contains p.2).length < (kb.filter fun p => !seen.contains p.2).length
              have e : kb.filter (fun p => !(b' :: seen).contains p.2) = (kb.filter fun p => !seen.contains p.2).filter fun p => !(p.2 == b') := by
                rw [List.filter_filter]
                refine List.filter_congr fun p _ => ?_
                simp [List.contains_cons, Bool.and_comm]
                rfl
              rw [e]
              refine Nat.lt_of_le_of_ne (List.length_filter_le _ _) (fun q => ?_)
              have := (List.length_filter_eq_length_iff.1 q) ([.str s], b') (List.mem_filter.2 ⟨hkb1, by simpa using hseen⟩)
              simp at this
            · show Entails _ (mkSt _ [_, (24, shB ((ks ++ [s]).map fun k => (k, 0))), _])
              rw [List.map_append]
              exact Entails.mk' [(16, 16), (24, 157), (148, 148)] rfl rfl ⟨SV.le_refl _, SV.le_refl _, SV.le_refl _, SV.le_refl _, SV.le_refl _, trivial⟩ ⟨Res.le_refl _, Res.le_snocF (f := pF) (d := (([], 0) : Pair)) (l := ks.map fun k => ((k, 0) : Pair)) (x := ((s, 0) : Pair)) rfl, Res.le_refl _, trivial⟩
          · have hiff : ∀ k, k ∈ ks ↔ 0 < wtQ v a b l k := fun k => ⟨g3 k, fun q => by
              obtain ⟨b', hb'⟩ := (hkq.kh [.str k] (by simp [wk, wk1])).1 (decide_eq_true (show 0 < wtQ v a b l (keyS [.str k]) from q))
              exact (g2 k b' hb').1 (hall _ hb')⟩
            have hsrt := ksQ_sort hab hseq hnc hne hks g1 hiff
            have cS := sSortSh 105 (fun p q : Pair => cmpS p.1 q.1) (ks.map fun k => (k, 0)) (by simp; omega) (fun p q _ _ => z105 p q)
            rw [hsrt] at cS
            have hWl := wtsQ_len (v := v) (a := a) (b := b) (l := l)
            obtain ⟨W, hW⟩ : ∃ W, W = wtsQ v a b l := ⟨_, rfl⟩
            have hWs := wtsQ_pos hab hseq hnc
            rw [← hW] at cS hmq hWl hres hWs
            conv => whnf
            repeat' (first
              | (refine CallX.of cS [(1000001, 24)] rfl ⟨SV.le_refl _, SV.le_refl _, trivial⟩ ⟨Res.le_refl _, trivial⟩ rfl rfl ?_; rintro y rout ⟨rfl, rfl⟩; refine ⟨rfl, ?_⟩; conv => whnf)
              | (refine br_intro (fun hb => ?_) (fun hb => ?_) <;> (try simp only [decide_eq_true_eq, decide_eq_false_iff_not, Bool.not_eq_true', Bool.not_eq_false', Bool.and_eq_true, Bool.or_eq_true, beq_iff_eq, not_and, Int.not_le, Int.not_lt, Int.toNat_natCast, beq_eq_false_iff_ne, ne_eq, eq_self, not_true_eq_false, not_false_eq_true] at hb) <;> (conv => whnf))
              | (refine RegX.rule (id := 17) hT rfl [] [(0, []), (1, [0]), (2, []), (3, []), (4, [0, 1, 2, 3]), (5, [0, 1, 2, 3, 4]), (6, [0, 1, 2, 3, 4]), (7, [0, 1, 2, 3]), (8, [0, 1, 2, 3]), (9, []), (10, [])] (by decide +kernel) ?_; conv => whnf)
              | (refine RegX.rule (id := 23) hT rfl [] [(0, []), (1, []), (2, [0, 1]), (3, [0, 1, 2]), (4, [0, 1, 2, 3]), (5, [0, 1, 2, 3]), (6, [0, 1, 2]), (7, [0, 1, 2]), (8, []), (9, []), (10, []), (11, [10]), (12, [11]), (13, [])] (by decide +kernel) ?_; conv => whnf)
              | omega
              | (refine And.intro ?_ ?_; ((try dsimp only); first | omega | (refine ⟨by omega, by omega, Int.le_trans (Int.mul_le_mul_of_nonneg_right (Int.ofNat_le.2 (Nat.le_of_ble_eq_true (rfl : Nat.ble _ 1024 = true))) (by omega)) (by omega), by omega⟩) | (refine Nat.le_trans (Nat.mul_le_mul_left _ (Nat.le_of_ble_eq_true (rfl : Nat.ble _ 1024 = true))) ?_; omega) | (unfold inI64; omega) | (constructor <;> omega) | (simp only [inI64, List.length_cons, List.length_append, List.length_nil, List.length_set] at *; omega) | decide | (unfold inI64; decide)); conv => whnf)
              | omega | decide | assumption)
            refine LoopX.rule hT (C := [35]) (ι := Nat) (fun i => i ≤ W.length)
              (fun i => mkSt [(3, .d (.int .i64 c)), (16, .mp 16), (24, .buf 24), (25, .buf 25), (160, .buf 24), (161, .d (.int .i64 W.length)), (162, .d (.int .i64 i))] [(16, mpW fun k => wtQ v a b l k), (24, shB (W.map fun p => (p.1, 0))), (25, seqB 3 1 iF 0 ((W.take i).map (·.2)))])
              (fun i => W.length - i) 0 (by omega) ?_ ?_
            · exact (Entails.nil 25 25 3 1 (rowF iF 0 []) rfl rfl (by decide)).trans (by (refine Entails.mk' [(16, 16), (24, 24), (25, 25)] rfl rfl ?_ ?_ <;> repeat' (first | exact True.intro | exact SV.le_refl _ | exact Res.le_refl _ | (exact Res.le_mapB (fun K _ => ⟨rfl, rfl⟩)) | (exact SV.le_int (by simp)) | exact SV.le_int (by omega) | exact SV.le_any _ | refine And.intro ?_ ?_)); done)
            rintro i i1
            have e1 : (i : Int).toNat = i := Int.toNat_natCast i
            have hmap : (W.map fun p => ((p.1, 0) : Pair)).length = W.length := by simp
            have hml2 : ((W.take i).map (·.2)).length = i := by simp; omega
            by_cases hi : i < W.length
            · have hWi : W.getD i ([], 0) ∈ W := getD_mem hi
              have hq := ((hmq _).1 hWi).2
              have hkey : ((W.map fun p => ((p.1, 0) : Pair)).getD (i : Int).toNat ([], 0)).1 = (W.getD i ([], 0)).1 := by
                rw [e1, List.getD_eq_getElem?_getD, List.getElem?_map, List.getD_eq_getElem?_getD, List.getElem?_eq_getElem hi]; rfl
              conv => whnf
              repeat' (first
                | (refine br_intro (fun hb => ?_) (fun hb => ?_) <;> (try simp only [decide_eq_true_eq, decide_eq_false_iff_not, Bool.not_eq_true', Bool.not_eq_false', Bool.and_eq_true, Bool.or_eq_true, beq_iff_eq, not_and, Int.not_le, Int.not_lt, Int.toNat_natCast, beq_eq_false_iff_ne, ne_eq, eq_self, not_true_eq_false, not_false_eq_true] at hb) <;> (conv => whnf))
                | (refine RegX.rule (id := 17) hT rfl [] [(0, []), (1, [0]), (2, []), (3, []), (4, [0, 1, 2, 3]), (5, [0, 1, 2, 3, 4]), (6, [0, 1, 2, 3, 4]), (7, [0, 1, 2, 3]), (8, [0, 1, 2, 3]), (9, []), (10, [])] (by decide +kernel) ?_; conv => whnf)
                | (refine RegX.rule (id := 23) hT rfl [] [(0, []), (1, []), (2, [0, 1]), (3, [0, 1, 2]), (4, [0, 1, 2, 3]), (5, [0, 1, 2, 3]), (6, [0, 1, 2]), (7, [0, 1, 2]), (8, []), (9, []), (10, []), (11, [10]), (12, [11]), (13, [])] (by decide +kernel) ?_; conv => whnf)
                | omega
                | (refine And.intro ?_ ?_; ((try dsimp only); first | omega | (refine ⟨by omega, by omega, Int.le_trans (Int.mul_le_mul_of_nonneg_right (Int.ofNat_le.2 (Nat.le_of_ble_eq_true (rfl : Nat.ble _ 1024 = true))) (by omega)) (by omega), by omega⟩) | (refine Nat.le_trans (Nat.mul_le_mul_left _ (Nat.le_of_ble_eq_true (rfl : Nat.ble _ 1024 = true))) ?_; omega) | (unfold inI64; omega) | (constructor <;> omega) | (simp only [inI64, List.length_cons, List.length_append, List.length_nil, List.length_set] at *; omega) | decide | (unfold inI64; decide)); conv => whnf)
                | omega | decide | assumption)
              all_goals try (exfalso; simp at hb; omega)
              refine ⟨i + 1, by omega, by omega, ?_⟩
              rw [take_snocD (d := (([], 0) : Pair)) hi, List.map_append]
              refine Entails.mk' [(16, 16), (24, 24), (25, 172)] rfl rfl ⟨SV.le_refl _, SV.le_refl _, SV.le_refl _, SV.le_refl _, SV.le_refl _, SV.le_refl _, SV.le_int (by omega), trivial⟩ ⟨Res.le_refl _, Res.le_refl _, ?_, trivial⟩
              refine Res.le_snocF (x := (W.getD i ([], 0)).2) ?_
              rw [hq, ← hkey]; rfl
            · have hie2 : i = W.length := by omega
              rw [hie2, List.take_length]
              have hwb : ∀ x ∈ W.map (·.2), 0 ≤ x ∧ x ≤ 5761440 := fun x hx => by
                obtain ⟨p, hp, rfl⟩ := List.mem_map.1 hx
                rw [((hmq p).1 hp).2]; exact wtQ_le ⟨⟨ha0, hab⟩, hb0⟩ _
              have hnn := sum_nonneg fun x hx => (hwb x hx).1
              have hlb := left_bound c (W.map (·.2)) hc.1 (fun x hx => (hwb x hx).1) (by omega)
              have c38 := s38 c (W.map (·.2)) hc hwb (by simp; omega) hWs
              rw [← splitG_eq c _ hlb] at c38
              have hPl : (splitG c (W.map (·.2))).length = W.length := by rw [splitG_eq c _ hlb, rngL_length]; simp
              obtain ⟨P1, hP1⟩ : ∃ P1, P1 = splitG c (W.map (·.2)) := ⟨_, rfl⟩
              rw [← hP1] at c38 hPl
              conv => whnf
              repeat' (first
                | (refine CallX.freeze _ _ _ _ 25 3 1 _ _ rfl rfl ?_; refine CallX.pure c38 ⟨SV.le_refl _, SV.le_refl _, trivial⟩ rfl ?_; conv => whnf)
                | (refine br_intro (fun hb => ?_) (fun hb => ?_) <;> (try simp only [decide_eq_true_eq, decide_eq_false_iff_not, Bool.not_eq_true', Bool.not_eq_false', Bool.and_eq_true, Bool.or_eq_true, beq_iff_eq, not_and, Int.not_le, Int.not_lt, Int.toNat_natCast, beq_eq_false_iff_ne, ne_eq, eq_self, not_true_eq_false, not_false_eq_true] at hb) <;> (conv => whnf))
                | (refine RegX.rule (id := 17) hT rfl [] [(0, []), (1, [0]), (2, []), (3, []), (4, [0, 1, 2, 3]), (5, [0, 1, 2, 3, 4]), (6, [0, 1, 2, 3, 4]), (7, [0, 1, 2, 3]), (8, [0, 1, 2, 3]), (9, []), (10, [])] (by decide +kernel) ?_; conv => whnf)
                | (refine RegX.rule (id := 23) hT rfl [] [(0, []), (1, []), (2, [0, 1]), (3, [0, 1, 2]), (4, [0, 1, 2, 3]), (5, [0, 1, 2, 3]), (6, [0, 1, 2]), (7, [0, 1, 2]), (8, []), (9, []), (10, []), (11, [10]), (12, [11]), (13, [])] (by decide +kernel) ?_; conv => whnf)
                | omega
                | (refine And.intro ?_ ?_; ((try dsimp only); first | omega | (refine ⟨by omega, by omega, Int.le_trans (Int.mul_le_mul_of_nonneg_right (Int.ofNat_le.2 (Nat.le_of_ble_eq_true (rfl : Nat.ble _ 1024 = true))) (by omega)) (by omega), by omega⟩) | (refine Nat.le_trans (Nat.mul_le_mul_left _ (Nat.le_of_ble_eq_true (rfl : Nat.ble _ 1024 = true))) ?_; omega) | (unfold inI64; omega) | (constructor <;> omega) | (simp only [inI64, List.length_cons, List.length_append, List.length_nil, List.length_set] at *; omega) | decide | (unfold inI64; decide)); conv => whnf)
                | omega | decide | assumption)
              all_goals try (exfalso; simp at hb; omega)
              refine LoopX.rule hT (C := [35]) (ι := List Pair × Nat) (fun (Q, i) => (i ≤ P1.length ∧ Q.length = W.length) ∧ (∀ j, j < i → (Q.getD j ([], 0)).2 = P1.getD j 0) ∧ ∀ j, (Q.getD j ([], 0)).1 = ((W.map fun p => ((p.1, 0) : Pair)).getD j ([], 0)).1)
                (fun (Q, i) => mkSt [(24, .buf 24), (176, .d (ints P1)), (177, .d (.int .i64 P1.length)), (178, .d (.int .i64 i))] [(24, shB Q)]) (fun (_, i) => P1.length - i) (W.map fun p => (p.1, 0), 0) ⟨⟨by simp, by simp⟩, by simp, fun _ => rfl⟩ (by (refine Entails.mk' [(24, 24)] rfl rfl ?_ ?_ <;> repeat' (first | exact True.intro | exact SV.le_refl _ | exact Res.le_refl _ | exact SV.le_int (by omega) | exact SV.le_any _ | refine And.intro ?_ ?_)); done) ?_
              rintro ⟨Q, i⟩ ⟨⟨g1, g2⟩, g3, g4⟩
              have g1 : i ≤ P1.length := g1
              have g2 : Q.length = W.length := g2
              have e1 : (i : Int).toNat = i := Int.toNat_natCast i
              conv => whnf
              repeat' (first
                | (refine br_intro (fun hb => ?_) (fun hb => ?_) <;> (try simp only [decide_eq_true_eq, decide_eq_false_iff_not, Bool.not_eq_true', Bool.not_eq_false', Bool.and_eq_true, Bool.or_eq_true, beq_iff_eq, not_and, Int.not_le, Int.not_lt, Int.toNat_natCast, beq_eq_false_iff_ne, ne_eq, eq_self, not_true_eq_false, not_false_eq_true] at hb) <;> (conv => whnf))
                | (refine RegX.rule (id := 17) hT rfl [] [(0, []), (1, [0]), (2, []), (3, []), (4, [0, 1, 2, 3]), (5, [0, 1, 2, 3, 4]), (6, [0, 1, 2, 3, 4]), (7, [0, 1, 2, 3]), (8, [0, 1, 2, 3]), (9, []), (10, [])] (by decide +kernel) ?_; conv => whnf)
                | (refine RegX.rule (id := 23) hT rfl [] [(0, []), (1, []), (2, [0, 1]), (3, [0, 1, 2]), (4, [0, 1, 2, 3]), (5, [0, 1, 2, 3]), (6, [0, 1, 2]), (7, [0, 1, 2]), (8, []), (9, []), (10, []), (11, [10]), (12, [11]), (13, [])] (by decide +kernel) ?_; conv => whnf)
                | omega
                | (refine And.intro ?_ ?_; ((try dsimp only); first | omega | (refine ⟨by omega, by omega, Int.le_trans (Int.mul_le_mul_of_nonneg_right (Int.ofNat_le.2 (Nat.le_of_ble_eq_true (rfl : Nat.ble _ 1024 = true))) (by omega)) (by omega), by omega⟩) | (refine Nat.le_trans (Nat.mul_le_mul_left _ (Nat.le_of_ble_eq_true (rfl : Nat.ble _ 1024 = true))) ?_; omega) | (unfold inI64; omega) | (constructor <;> omega) | (simp only [inI64, List.length_cons, List.length_append, List.length_nil, List.length_set] at *; omega) | decide | (unfold inI64; decide)); conv => whnf)
                | omega | decide | assumption)
              · refine ⟨(Q.set (i : Int).toNat ((Q.getD (i : Int).toNat ([], 0)).1, P1.getD (i : Int).toNat 0), i + 1), ⟨⟨by omega, by simpa using g2⟩, fun j hj => ?_, fun j => ?_⟩, (show P1.length - (i + 1) < P1.length - i by omega), Entails.mk' [(24, 24)] rfl rfl ⟨SV.le_refl _, SV.le_refl _, SV.le_refl _, SV.le_refl _, trivial⟩ ⟨Res.le_upd (f := pF) (fun p : Pair => (p.1, P1.getD (i : Int).toNat 0)) (fun _ => rfl), trivial⟩⟩
                · show ((Q.set (i : Int).toNat _).getD j ([], 0)).2 = _
                  rw [e1]
                  by_cases q : j = i
                  · subst q; rw [getD_set_eq (by omega)]
                  · rw [getD_set_ne (by omega)]; exact g3 j (by have : j < i + 1 := hj; omega)
                · exact getD_set_fst.trans (g4 j)
              · have hi : i = P1.length := by omega
                refine .freeze _ 24 74 2 _ _ rfl (.weak _ ?_)
                conv => whnf
                refine ⟨.tup [.d (pairs Q), .d (.int .i64 0)], [], SV.le_tup ⟨SV.le_refl _, SV.le_refl _, trivial⟩, ⟨?_, rfl⟩, trivial⟩
                unfold blPost
                rw [hres]
                have : Q = mkS c W := by
                  refine mkS_eq g2 (by rw [← hP1]; exact hPl) (fun j hj => ?_) (fun j hj => ?_)
                  · rw [g4, List.getD_eq_getElem?_getD, List.getElem?_map, List.getD_eq_getElem?_getD, List.getElem?_eq_getElem hj]; rfl
                  · rw [← hP1]; exact g3 j (by omega)
                rw [← this]
      · rw [decide_eq_false hc] at c75
        have hres : blmE v a b l c = ([], 1) := by
          unfold blmE
          rw [if_neg hnc, if_pos hc]
        by_cases hE : a = b
        all_goals
          first
            | have hMB := hM1 hE
            | have hMB := hM2 hE
          clear hM1 hM2
          conv => whnf
          repeat' (first
            | (refine CallX.exact (c75) rfl rfl ?_; rotate_right; conv => whnf)
            | (intro clock kb hkb; have hkl := kbQ_len hab hne (fun K hK => (hMB K hK).1) hkb; conv => whnf)
            | (refine br_intro (fun hb => ?_) (fun hb => ?_) <;> (try simp only [decide_eq_true_eq, decide_eq_false_iff_not, Bool.not_eq_true', Bool.not_eq_false', Bool.and_eq_true, Bool.or_eq_true, beq_iff_eq, not_and, Int.not_le, Int.not_lt, Int.toNat_natCast, beq_eq_false_iff_ne, ne_eq, eq_self, not_true_eq_false, not_false_eq_true] at hb) <;> (conv => whnf))
            | (refine RegX.rule (id := 17) hT rfl [] [(0, []), (1, [0]), (2, []), (3, []), (4, [0, 1, 2, 3]), (5, [0, 1, 2, 3, 4]), (6, [0, 1, 2, 3, 4]), (7, [0, 1, 2, 3]), (8, [0, 1, 2, 3]), (9, []), (10, [])] (by decide +kernel) ?_; conv => whnf)
            | (refine RegX.rule (id := 23) hT rfl [] [(0, []), (1, []), (2, [0, 1]), (3, [0, 1, 2]), (4, [0, 1, 2, 3]), (5, [0, 1, 2, 3]), (6, [0, 1, 2]), (7, [0, 1, 2]), (8, []), (9, []), (10, []), (11, [10]), (12, [11]), (13, [])] (by decide +kernel) ?_; conv => whnf)
            | omega
            | (refine And.intro ?_ ?_; ((try dsimp only); first | omega | (refine ⟨by omega, by omega, Int.le_trans (Int.mul_le_mul_of_nonneg_right (Int.ofNat_le.2 (Nat.le_of_ble_eq_true (rfl : Nat.ble _ 1024 = true))) (by omega)) (by omega), by omega⟩) | (refine Nat.le_trans (Nat.mul_le_mul_left _ (Nat.le_of_ble_eq_true (rfl : Nat.ble _ 1024 = true))) ?_; omega) | (unfold inI64; omega) | (constructor <;> omega) | (simp only [inI64, List.length_cons, List.length_append, List.length_nil, List.length_set] at *; omega) | decide | (unfold inI64; decide)); conv => whnf)
            | omega | decide | assumption)
          all_goals try (exfalso; omega)
          refine .weak _ ?_
          conv => whnf
          refine ⟨.tup [.d (pairs []), .d (.int .i64 1)], [], SV.le_tup ⟨SV.le_nilS, SV.le_refl _, trivial⟩, ⟨?_, rfl⟩, trivial⟩
          unfold blPost
          rw [hres]
end Go.Proofs.YtcjfniddeibbhaaGreatDoor
set_option maxRecDepth 20000
namespace Go.Proofs.YtcjfniddeibbhaaGreatDoor
open Go Go.Eng
theorem blmE_len (v : List UInt8) (a b : Int) (l : List Hir) (c : Int) : (blmE v a b l c).1.length ≤ l.length + 1 := by
  unfold blmE
  split
  · simp
  · split
    · simp
    · split
      · simp
      · show (mkS c (wtsP v a b l)).length ≤ _
        unfold mkS
        rw [List.length_zipWith]
        have := prts_len v a b l
        unfold wtsP
        split
        · simp; omega
        · omega
theorem blmF_len (v : List UInt8) (a b : Int) (l : List Hir) (c : Int) : (blmF v a b l c).1.length ≤ l.length + 1 := by
  unfold blmF
  split
  · exact blmE_len v a b l c
  · simp
-- BlamesFall
set_option maxHeartbeats 4000000 in
theorem z4 (n : Nat) (L : Nat → Int) (hn : n ≤ maxLen) (hl : ∀ i, -2^63 ≤ L i ∧ L i < 2^63) : FSpec Tryz.prog 4 [.d (.ro 1 n fun i => [.int .i64 (L i)])] [] (fun x r => x = .d (.bool true) ∧ r = []) := by
  have hL : Rok n L := ⟨hn, hl⟩
  refine spec_of hT (C := []) Tryz.func4 rfl Tryz.call4 rfl rfl rfl ?_
  conv => whnf
  repeat' (first
    | (refine CallX.of (s15 n L hL _ ?_ ?_ [[118, 49], [118, 49], [118, 50], []] (by simp) (by simp)) [(1000000, 14)] rfl ⟨SV.le_refl _, SV.le_lit rfl rfl, trivial⟩ ⟨Res.le_refl _, trivial⟩ rfl rfl ?_; rotate_right; rintro x rout ⟨⟨v, hv, rfl⟩, ⟨c, c1, c2, rfl⟩⟩; have hv8 := mem_len hv rfl; refine ⟨rfl, ?_⟩; conv => whnf)
    | (refine CallX.of (sWin n L hL _ ?_ ?_) [(1000000, 14)] rfl ⟨SV.le_refl _, trivial⟩ ⟨Res.le_refl _, trivial⟩ rfl rfl ?_; rotate_right; rintro x rout ⟨⟨a, b, rfl⟩, ⟨c, c3, c4, rfl⟩⟩; refine ⟨rfl, ?_⟩; conv => whnf)
    | (refine CallX.of (s64 n L hL _ ?_ ?_ 0 3 ?_ ?_ ?_ ?_) [(1000000, 14)] rfl ⟨SV.le_refl _, SV.le_refl _, SV.le_refl _, trivial⟩ ⟨Res.le_refl _, trivial⟩ rfl rfl ?_; rotate_right; rintro x rout ⟨⟨m, hm0, hm1, rfl⟩, ⟨c, c1, c2, rfl⟩⟩; refine ⟨rfl, ?_⟩; conv => whnf)
    | (refine CallX.of (sHirs n L hL _ ?_ ?_ m ?_ ?_) [(1000000, 14)] rfl ⟨SV.le_refl _, SV.le_refl _, trivial⟩ ⟨Res.le_refl _, trivial⟩ rfl rfl ?_; rotate_right; rintro x rout ⟨⟨l, hl5, rfl⟩, ⟨c, c5, c6, rfl⟩⟩; refine ⟨rfl, ?_⟩; conv => whnf)
    | (refine CallX.of (s33 n L hL _ ?_ ?_ [0, 100, 1000, 99999, -1] ?_ ?_) [(1000000, 14)] rfl ⟨SV.le_refl _, SV.le_lit rfl rfl, trivial⟩ ⟨Res.le_refl _, trivial⟩ rfl rfl ?_; rotate_right; rintro x rout ⟨⟨ce, hce, rfl⟩, ⟨c, c1, c2, rfl⟩⟩; refine ⟨rfl, ?_⟩; conv => whnf)
    | (refine br_intro (fun hb => ?_) (fun hb => ?_) <;> (try simp only [decide_eq_true_eq, decide_eq_false_iff_not, Bool.not_eq_true', Bool.not_eq_false', Bool.and_eq_true, Bool.or_eq_true, beq_iff_eq, not_and, Int.not_le, Int.not_lt, Int.toNat_natCast, beq_eq_false_iff_ne, ne_eq, eq_self, not_true_eq_false, not_false_eq_true] at hb) <;> (conv => whnf))
    | (refine RegX.rule (id := 4) hT rfl [] [(0, []), (4, [0]), (6, [0, 4]), (1, [4, 6]), (2, [4, 6]), (3, [4, 6]), (5, [6]), (7, []), (8, []), (9, []), (10, [])] (by decide +kernel) ?_; conv => whnf)
    | omega
    | (refine And.intro ?_ ?_; ((try dsimp only); first | omega | (refine ⟨by omega, by omega, Int.le_trans (Int.mul_le_mul_of_nonneg_right (Int.ofNat_le.2 (Nat.le_of_ble_eq_true (rfl : Nat.ble _ 1024 = true))) (by omega)) (by omega), by omega⟩) | (refine Nat.le_trans (Nat.mul_le_mul_left _ (Nat.le_of_ble_eq_true (rfl : Nat.ble _ 1024 = true))) ?_; omega) | (unfold inI64; omega) | (constructor <;> omega) | (simp only [inI64, List.length_cons, List.length_append, List.length_nil, List.length_set] at *; omega) | decide | (unfold inI64; decide)); conv => whnf)
    | omega | decide | assumption)
  have hvl : v.length ≤ 2^40 := by omega
  have hok : hiOk l := ⟨by have := hl5.1; omega, fun h hh => hiB_K (hl5.2 h hh) (by omega)⟩
  have c33 := z33 v hvl a b l hl5 ce
  have c21 := s21 v hvl
  have c80 := z80 a b
  have c81 := z81 l hok
  have cE := s17 [if (!isKeyB v) = true then 5 else 0, winE a b, hirsE l] (by simp)
  rw [show firstE [if (!isKeyB v) = true then 5 else 0, winE a b, hirsE l] = blE0 v a b l from rfl] at cE
  have hlen := blmF_len v a b l ce
  have hl1 := hl5.1
  by_cases hE : blE0 v a b l = 0
  · have hw : winE a b = 0 := by
      unfold blE0 at hE
      simp only [firstE] at hE
      grind
    have hh0 : hirsE l = 0 := by
      unfold blE0 at hE
      simp only [firstE] at hE
      grind
    have hab : (0 ≤ a ∧ a ≤ b) ∧ b ≤ 5761440 := by unfold winE at hw; grind
    have c36 := z36 v a b hab l hl5 hh0 ce
    have hF : blmF v a b l ce = blmE v a b l ce := by unfold blmF; rw [if_pos hE]
    rw [hF] at c33 hlen
    rw [hE] at cE
    generalize blmE v a b l ce = Q at c33 c36 hlen
    have c44 := s44 Q.1 Q.1 (by omega)
    repeat' (first
      | (refine CallX.of c33 [] rfl ⟨SV.le_refl _, SV.le_refl _, SV.le_refl _, SV.le_refl _, trivial⟩ trivial rfl rfl ?_; rintro y rout ⟨hy, rfl⟩; unfold blPost at hy; subst hy; refine ⟨rfl, ?_⟩; conv => whnf)
      | (refine CallX.exact (c21) rfl rfl ?_; rotate_right; conv => whnf)
      | (refine CallX.exact (s20 _ _) rfl rfl ?_; rotate_right; conv => whnf)
      | (refine CallX.exact (c80) rfl rfl ?_; rotate_right; conv => whnf)
      | (refine CallX.exact (c81) rfl rfl ?_; rotate_right; conv => whnf)
      | (refine CallX.pure cE ⟨SV.le_lit (by rfl) (by rfl), trivial⟩ rfl ?_; conv => whnf)
      | (refine CallX.of c36 [] rfl ⟨SV.le_refl _, SV.le_refl _, SV.le_refl _, SV.le_refl _, trivial⟩ trivial rfl rfl ?_; rintro y rout ⟨hy, rfl⟩; unfold blPost at hy; subst hy; refine ⟨rfl, ?_⟩; conv => whnf)
      | (refine CallX.exact (c44) rfl rfl ?_; rotate_right; conv => whnf)
      | (refine CallX.exact (s42) rfl rfl ?_; rotate_right; conv => whnf)
      | (refine br_intro (fun hb => ?_) (fun hb => ?_) <;> (try simp only [decide_eq_true_eq, decide_eq_false_iff_not, Bool.not_eq_true', Bool.not_eq_false', Bool.and_eq_true, Bool.or_eq_true, beq_iff_eq, not_and, Int.not_le, Int.not_lt, Int.toNat_natCast, beq_eq_false_iff_ne, ne_eq, eq_self, not_true_eq_false, not_false_eq_true] at hb) <;> (conv => whnf))
      | (refine RegX.rule (id := 4) hT rfl [] [(0, []), (4, [0]), (6, [0, 4]), (1, [4, 6]), (2, [4, 6]), (3, [4, 6]), (5, [6]), (7, []), (8, []), (9, []), (10, [])] (by decide +kernel) ?_; conv => whnf)
      | omega
      | (refine And.intro ?_ ?_; ((try dsimp only); first | omega | (refine ⟨by omega, by omega, Int.le_trans (Int.mul_le_mul_of_nonneg_right (Int.ofNat_le.2 (Nat.le_of_ble_eq_true (rfl : Nat.ble _ 1024 = true))) (by omega)) (by omega), by omega⟩) | (refine Nat.le_trans (Nat.mul_le_mul_left _ (Nat.le_of_ble_eq_true (rfl : Nat.ble _ 1024 = true))) ?_; omega) | (unfold inI64; omega) | (constructor <;> omega) | (simp only [inI64, List.length_cons, List.length_append, List.length_nil, List.length_set] at *; omega) | decide | (unfold inI64; decide)); conv => whnf)
      | omega | decide | assumption)
    all_goals first
      | (refine .ret _ ?_
         conv => whnf
         refine ⟨[], ⟨?_, rfl⟩, trivial⟩
         conv => lhs; whnf
         done)
      | (refine .ret _ ?_
         conv => whnf
         refine ⟨[], ⟨?_, rfl⟩, trivial⟩
         conv => lhs; whnf
         simp)
      | (exfalso; simp at hb)
  · have hF : blmF v a b l ce = ([], blE0 v a b l) := by unfold blmF; rw [if_neg hE]
    rw [hF] at c33
    generalize blE0 v a b l = E at c33 cE hE
    have c44 := s44 [] [] (by simp)
    repeat' (first
      | (refine CallX.of c33 [] rfl ⟨SV.le_refl _, SV.le_refl _, SV.le_refl _, SV.le_refl _, trivial⟩ trivial rfl rfl ?_; rintro y rout ⟨hy, rfl⟩; unfold blPost at hy; subst hy; refine ⟨rfl, ?_⟩; conv => whnf)
      | (refine CallX.exact (c21) rfl rfl ?_; rotate_right; conv => whnf)
      | (refine CallX.exact (s20 _ _) rfl rfl ?_; rotate_right; conv => whnf)
      | (refine CallX.exact (c80) rfl rfl ?_; rotate_right; conv => whnf)
      | (refine CallX.exact (c81) rfl rfl ?_; rotate_right; conv => whnf)
      | (refine CallX.pure cE ⟨SV.le_lit (by rfl) (by rfl), trivial⟩ rfl ?_; conv => whnf)
      | (refine CallX.pure c44 ⟨SV.le_refl _, SV.le_nilS, trivial⟩ rfl ?_; conv => whnf)
      | (refine CallX.exact (s42) rfl rfl ?_; rotate_right; conv => whnf)
      | (refine br_intro (fun hb => ?_) (fun hb => ?_) <;> (try simp only [decide_eq_true_eq, decide_eq_false_iff_not, Bool.not_eq_true', Bool.not_eq_false', Bool.and_eq_true, Bool.or_eq_true, beq_iff_eq, not_and, Int.not_le, Int.not_lt, Int.toNat_natCast, beq_eq_false_iff_ne, ne_eq, eq_self, not_true_eq_false, not_false_eq_true] at hb) <;> (conv => whnf))
      | (refine RegX.rule (id := 4) hT rfl [] [(0, []), (4, [0]), (6, [0, 4]), (1, [4, 6]), (2, [4, 6]), (3, [4, 6]), (5, [6]), (7, []), (8, []), (9, []), (10, [])] (by decide +kernel) ?_; conv => whnf)
      | omega
      | (refine And.intro ?_ ?_; ((try dsimp only); first | omega | (refine ⟨by omega, by omega, Int.le_trans (Int.mul_le_mul_of_nonneg_right (Int.ofNat_le.2 (Nat.le_of_ble_eq_true (rfl : Nat.ble _ 1024 = true))) (by omega)) (by omega), by omega⟩) | (refine Nat.le_trans (Nat.mul_le_mul_left _ (Nat.le_of_ble_eq_true (rfl : Nat.ble _ 1024 = true))) ?_; omega) | (unfold inI64; omega) | (constructor <;> omega) | (simp only [inI64, List.length_cons, List.length_append, List.length_nil, List.length_set] at *; omega) | decide | (unfold inI64; decide)); conv => whnf)
      | omega | decide | assumption)
    all_goals first
      | (exfalso; omega)
      | (refine .ret _ ?_
         conv => whnf
         refine ⟨[], ⟨?_, rfl⟩, trivial⟩
         conv => lhs; whnf
         done)
      | (refine .ret _ ?_
         conv => whnf
         refine ⟨[], ⟨?_, rfl⟩, trivial⟩
         conv => lhs; whnf
         simp)
      | (exfalso; simp at hb)
end Go.Proofs.YtcjfniddeibbhaaGreatDoor
