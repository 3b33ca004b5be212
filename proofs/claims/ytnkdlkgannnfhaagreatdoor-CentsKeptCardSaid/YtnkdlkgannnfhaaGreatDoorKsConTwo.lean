/- CentsKept is proved: for every input the law returns true, and its argument reads afterwards as it read before. Conditions: those of the given row alone. -/
import Derived.Test.YtnkdlkgannnfhaaGreatDoorKsConOne
import Derived.Test.YtnkdlkgannnfhaaGreatDoorProg
import Derived.Test.YtnkdlkgannnfhaaGreatDoorKsEngTwo
set_option linter.unusedVariables false
set_option linter.unusedSimpArgs false
set_option maxRecDepth 20000
namespace Go.Proofs.YtnkdlkgannnfhaaGreatDoor
open Go Go.Eng
structure Rdg where
  tm : Int
  st : List UInt8
  meter : Int
  fuel : Int
def rgF : Rdg → List DV := fun r => [.int .i64 r.tm, .str r.st, .int .i64 r.meter, .int .i64 r.fuel]
structure Leg where
  veh : List UInt8
  out : Rdg
  inn : Rdg
def lgF : Leg → List DV := fun x => [.str x.veh, .int .i64 x.out.tm, .str x.out.st, .int .i64 x.out.meter, .int .i64 x.out.fuel, .int .i64 x.inn.tm, .str x.inn.st, .int .i64 x.inn.meter, .int .i64 x.inn.fuel]
def rg0 : Rdg := ⟨0, [], 0, 0⟩
def lg0 : Leg := ⟨[], rg0, rg0⟩
abbrev legs (l : List Leg) : DV := seqD 9 lgF lg0 l
structure Hir where
  key : List UInt8
  drv : List UInt8
  frm : Int
  to : Int
  legs : List Leg
def hiF : Hir → List DV := fun h => [.str h.key, .str h.drv, .int .i64 h.frm, .int .i64 h.to, Go.Proofs.YtnkdlkgannnfhaaGreatDoor.legs h.legs]
def hi0 : Hir := ⟨[], [], 0, 0, []⟩
abbrev hirs (l : List Hir) : DV := seqD 5 hiF hi0 l
abbrev hcell (h : Hir) : Res := .cells 179 [.d (.str h.key), .d (.str h.drv), .d (.int .i64 h.frm), .d (.int .i64 h.to), .d (Go.Proofs.YtnkdlkgannnfhaaGreatDoor.legs h.legs)]
def lgK (x : Leg) : Prop := x.veh.length ≤ 2^40 ∧ x.out.st.length ≤ 2^40 ∧ x.inn.st.length ≤ 2^40
def hiK (h : Hir) : Prop := h.key.length ≤ 2^40 ∧ h.drv.length ≤ 2^40 ∧ h.legs.length ≤ 2^40 ∧ ∀ x ∈ h.legs, lgK x
def hiOk (l : List Hir) : Prop := l.length ≤ 2^40 ∧ ∀ h ∈ l, hiK h
def rdgE (r : Rdg) : Int := if ¬ (0 ≤ r.tm ∧ r.tm ≤ 5761439) then 1 else if isKeyB r.st = false then 5 else if ¬ ((0 ≤ r.meter ∧ r.meter ≤ 999999) ∧ (0 ≤ r.fuel ∧ r.fuel ≤ 8)) then 1 else 0
def timE (a b : Int) : Int := if a < 0 ∨ b ≤ a ∨ 5761439 < b then 1 else if 172800 < b - a then 2 else 0
def winE (a b : Int) : Int := if (0 ≤ a ∧ a ≤ b) ∧ b ≤ 5761440 then 0 else 1
def legE (h : Hir) (i : Nat) : Int :=
  if isKeyB (h.legs.getD i lg0).veh = false then 5
  else if rdgE (h.legs.getD i lg0).out ≠ 0 then rdgE (h.legs.getD i lg0).out
  else if i = 0 ∧ (h.legs.getD i lg0).out.tm ≠ h.frm then 7
  else if 0 < i ∧ (h.legs.getD i lg0).out.tm ≠ (h.legs.getD (i - 1) lg0).inn.tm then 7
  else if 0 < i ∧ (h.legs.getD i lg0).veh = (h.legs.getD (i - 1) lg0).veh then 16
  else if 0 < i ∧ (h.legs.getD i lg0).out.st ≠ (h.legs.getD (i - 1) lg0).inn.st then 8
  else if (h.legs.getD i lg0).inn.tm = -1 then (if ¬ ((h.legs.getD i lg0).inn.st = [] ∧ (h.legs.getD i lg0).inn.meter = 0 ∧ (h.legs.getD i lg0).inn.fuel = 0) then 3 else if (i : Int) < (h.legs.length : Int) - 1 then 11 else 0)
  else if rdgE (h.legs.getD i lg0).inn ≠ 0 then rdgE (h.legs.getD i lg0).inn
  else if (h.legs.getD i lg0).inn.tm ≤ (h.legs.getD i lg0).out.tm then 7 else 0
def hirE (h : Hir) : Int :=
  if isKeyB h.key = false ∨ isKeyB h.drv = false then 5 else if timE h.frm h.to ≠ 0 then timE h.frm h.to
  else if h.legs.length = 0 then 3 else if 20 < h.legs.length then 2 else firstAt (legE h) h.legs.length
def hirsE1 (l : List Hir) (i : Nat) : Int := if hirE (l.getD i hi0) ≠ 0 then hirE (l.getD i hi0) else if 0 < i ∧ strLe (l.getD i hi0).key (l.getD (i - 1) hi0).key = true then 7 else 0
def hirsE (l : List Hir) : Int := if 500 < l.length then 2 else firstAt (hirsE1 l) l.length
-- word.Moment
theorem z220 (n : Int) : FSpec Tryz.prog 220 [.d (.int .i64 n)] [] (fun x o => x = .d (.int .i64 (if 0 ≤ n ∧ n ≤ 5761439 then 0 else 1)) ∧ o = []) := by
  refine spec_of hT (C := []) Tryz.func220 rfl Tryz.call220 rfl rfl rfl ?_
  conv => whnf
  repeat' (first
    | (refine CallX.exact (s154 _) rfl rfl ?_; rotate_right; conv => whnf)
    | (refine CallX.exact (s107 _ _) rfl rfl ?_; rotate_right; conv => whnf)
    | (refine br_intro (fun hb => ?_) (fun hb => ?_) <;> (try simp only [decide_eq_true_eq, decide_eq_false_iff_not, Bool.not_eq_true', Bool.not_eq_false', Bool.and_eq_true, Bool.or_eq_true, beq_iff_eq, not_and, Int.not_le, Int.not_lt, Int.toNat_natCast, beq_eq_false_iff_ne, ne_eq, eq_self, not_true_eq_false, not_false_eq_true] at hb) <;> (conv => whnf))
    | omega
    | (refine And.intro ?_ ?_; ((try dsimp only); first | omega | (refine ⟨by omega, by omega, Int.le_trans (Int.mul_le_mul_of_nonneg_right (Int.ofNat_le.2 (Nat.le_of_ble_eq_true (rfl : Nat.ble _ 1024 = true))) (by omega)) (by omega), by omega⟩) | (refine Nat.le_trans (Nat.mul_le_mul_left _ (Nat.le_of_ble_eq_true (rfl : Nat.ble _ 1024 = true))) ?_; omega) | (unfold inI64; omega) | (constructor <;> omega) | (simp only [inI64, List.length_cons, List.length_append, List.length_nil, List.length_set] at *; omega) | decide | (unfold inI64; decide)); conv => whnf)
    | omega | decide | assumption)
  refine .ret _ ?_
  conv => whnf
  refine ⟨[], ⟨?_, rfl⟩, trivial⟩
  conv => lhs; whnf
  congr 2
  grind
-- readingFault
theorem z284 (r : Rdg) (h : r.st.length ≤ 2^40) : FSpec Tryz.prog 284 [.agg ((rgF r).map .d)] [] (fun x o => x = .d (.int .i64 (rdgE r)) ∧ o = []) := by
  refine spec_of hT (C := []) Tryz.func284 rfl Tryz.call284 rfl rfl rfl ?_
  conv => whnf
  repeat' (first
    | (refine CallX.exact (s133 _) rfl rfl ?_; rotate_right; conv => whnf)
    | (refine CallX.exact (s21 _ h) rfl rfl ?_; rotate_right; conv => whnf)
    | (refine CallX.exact (s110 _ _ _) rfl rfl ?_; rotate_right; conv => whnf)
    | (refine br_intro (fun hb => ?_) (fun hb => ?_) <;> (try simp only [decide_eq_true_eq, decide_eq_false_iff_not, Bool.not_eq_true', Bool.not_eq_false', Bool.and_eq_true, Bool.or_eq_true, beq_iff_eq, not_and, Int.not_le, Int.not_lt, Int.toNat_natCast, beq_eq_false_iff_ne, ne_eq, eq_self, not_true_eq_false, not_false_eq_true] at hb) <;> (conv => whnf))
    | omega
    | (refine And.intro ?_ ?_; ((try dsimp only); first | omega | (refine ⟨by omega, by omega, Int.le_trans (Int.mul_le_mul_of_nonneg_right (Int.ofNat_le.2 (Nat.le_of_ble_eq_true (rfl : Nat.ble _ 1024 = true))) (by omega)) (by omega), by omega⟩) | (refine Nat.le_trans (Nat.mul_le_mul_left _ (Nat.le_of_ble_eq_true (rfl : Nat.ble _ 1024 = true))) ?_; omega) | (unfold inI64; omega) | (constructor <;> omega) | (simp only [inI64, List.length_cons, List.length_append, List.length_nil, List.length_set] at *; omega) | decide | (unfold inI64; decide)); conv => whnf)
    | omega | decide | assumption)
  all_goals
    refine .ret _ ?_
    conv => whnf
    refine ⟨[], ⟨?_, rfl⟩, trivial⟩
    conv => lhs; whnf
    congr 2
    unfold rdgE; grind
-- hire.checkReading
theorem z312 (r : Rdg) (h : r.st.length ≤ 2^40) : FSpec Tryz.prog 312 [.agg ((rgF r).map .d)] [] (fun x o => x = .d (.int .i64 (rdgE r)) ∧ o = []) := by
  refine spec_of hT (C := []) Tryz.func312 rfl Tryz.call312 rfl rfl rfl ?_
  conv => whnf
  repeat' (first
    | (refine CallX.exact (z220 _) rfl rfl ?_; rotate_right; conv => whnf)
    | (refine CallX.exact (s108 _ h) rfl rfl ?_; rotate_right; conv => whnf)
    | (refine CallX.exact (s119 _ _ _) rfl rfl ?_; rotate_right; conv => whnf)
    | (refine CallX.exact (s107 _ _) rfl rfl ?_; rotate_right; conv => whnf)
    | (refine CallX.pure (s105 [_, _, _] (by simp)) ⟨SV.le_lit (by rfl) (by rfl), trivial⟩ rfl ?_; conv => whnf)
    | (refine br_intro (fun hb => ?_) (fun hb => ?_) <;> (try simp only [decide_eq_true_eq, decide_eq_false_iff_not, Bool.not_eq_true', Bool.not_eq_false', Bool.and_eq_true, Bool.or_eq_true, beq_iff_eq, not_and, Int.not_le, Int.not_lt, Int.toNat_natCast, beq_eq_false_iff_ne, ne_eq, eq_self, not_true_eq_false, not_false_eq_true] at hb) <;> (conv => whnf))
    | (refine RegX.rule (id := 1) hT rfl [] [(0, []), (1, []), (3, [0, 1]), (4, [0, 1]), (8, [0, 1, 3, 4]), (9, [0, 1, 3, 4]), (2, [3, 4, 8, 9]), (5, [8, 9]), (6, [8, 9]), (7, [8, 9]), (10, []), (11, []), (12, []), (13, []), (14, []), (15, []), (16, []), (17, []), (18, []), (19, []), (20, []), (21, [])] (by decide +kernel) ?_; conv => whnf)
    | omega
    | (refine And.intro ?_ ?_; ((try dsimp only); first | omega | (refine ⟨by omega, by omega, Int.le_trans (Int.mul_le_mul_of_nonneg_right (Int.ofNat_le.2 (Nat.le_of_ble_eq_true (rfl : Nat.ble _ 1024 = true))) (by omega)) (by omega), by omega⟩) | (refine Nat.le_trans (Nat.mul_le_mul_left _ (Nat.le_of_ble_eq_true (rfl : Nat.ble _ 1024 = true))) ?_; omega) | (unfold inI64; omega) | (constructor <;> omega) | (simp only [inI64, List.length_cons, List.length_append, List.length_nil, List.length_set] at *; omega) | decide | (unfold inI64; decide)); conv => whnf)
    | omega | decide | assumption)
  all_goals
    refine .ret _ ?_
    conv => whnf
    refine ⟨[], ⟨?_, rfl⟩, trivial⟩
    conv => lhs; whnf
    congr 2
    unfold rdgE; simp only [firstE]; grind
-- WindowFault
theorem z80 (a b : Int) : FSpec Tryz.prog 80 [.agg [.d (.int .i64 a), .d (.int .i64 b)]] [] (fun x o => x = .d (.int .i64 (winE a b)) ∧ o = []) := by
  refine spec_of hT (C := []) Tryz.func80 rfl Tryz.call80 rfl rfl rfl ?_
  conv => whnf
  repeat' (first
    | (refine CallX.exact (s110 _ _ _) rfl rfl ?_; rotate_right; conv => whnf)
    | (refine br_intro (fun hb => ?_) (fun hb => ?_) <;> (try simp only [decide_eq_true_eq, decide_eq_false_iff_not, Bool.not_eq_true', Bool.not_eq_false', Bool.and_eq_true, Bool.or_eq_true, beq_iff_eq, not_and, Int.not_le, Int.not_lt, Int.toNat_natCast, beq_eq_false_iff_ne, ne_eq, eq_self, not_true_eq_false, not_false_eq_true] at hb) <;> (conv => whnf))
    | omega
    | (refine And.intro ?_ ?_; ((try dsimp only); first | omega | (refine ⟨by omega, by omega, Int.le_trans (Int.mul_le_mul_of_nonneg_right (Int.ofNat_le.2 (Nat.le_of_ble_eq_true (rfl : Nat.ble _ 1024 = true))) (by omega)) (by omega), by omega⟩) | (refine Nat.le_trans (Nat.mul_le_mul_left _ (Nat.le_of_ble_eq_true (rfl : Nat.ble _ 1024 = true))) ?_; omega) | (unfold inI64; omega) | (constructor <;> omega) | (simp only [inI64, List.length_cons, List.length_append, List.length_nil, List.length_set] at *; omega) | decide | (unfold inI64; decide)); conv => whnf)
    | omega | decide | assumption)
  all_goals
    refine .ret _ ?_
    conv => whnf
    refine ⟨[], ⟨?_, rfl⟩, trivial⟩
    conv => lhs; whnf
    congr 2
    unfold winE; grind
-- word.Window
theorem z123 (a b : Int) : FSpec Tryz.prog 123 [.agg [.d (.int .i64 a), .d (.int .i64 b)]] [] (fun x o => x = .d (.int .i64 (winE a b)) ∧ o = []) := by
  refine spec_of hT (C := []) Tryz.func123 rfl Tryz.call123 rfl rfl rfl ?_
  conv => whnf
  repeat' (first
    | (refine CallX.exact (s119 _ _ _) rfl rfl ?_; rotate_right; conv => whnf)
    | (refine CallX.exact (s107 _ _) rfl rfl ?_; rotate_right; conv => whnf)
    | (refine br_intro (fun hb => ?_) (fun hb => ?_) <;> (try simp only [decide_eq_true_eq, decide_eq_false_iff_not, Bool.not_eq_true', Bool.not_eq_false', Bool.and_eq_true, Bool.or_eq_true, beq_iff_eq, not_and, Int.not_le, Int.not_lt, Int.toNat_natCast, beq_eq_false_iff_ne, ne_eq, eq_self, not_true_eq_false, not_false_eq_true] at hb) <;> (conv => whnf))
    | omega
    | (refine And.intro ?_ ?_; ((try dsimp only); first | omega | (refine ⟨by omega, by omega, Int.le_trans (Int.mul_le_mul_of_nonneg_right (Int.ofNat_le.2 (Nat.le_of_ble_eq_true (rfl : Nat.ble _ 1024 = true))) (by omega)) (by omega), by omega⟩) | (refine Nat.le_trans (Nat.mul_le_mul_left _ (Nat.le_of_ble_eq_true (rfl : Nat.ble _ 1024 = true))) ?_; omega) | (unfold inI64; omega) | (constructor <;> omega) | (simp only [inI64, List.length_cons, List.length_append, List.length_nil, List.length_set] at *; omega) | decide | (unfold inI64; decide)); conv => whnf)
    | omega | decide | assumption)
  all_goals
    refine .ret _ ?_
    conv => whnf
    refine ⟨[], ⟨?_, rfl⟩, trivial⟩
    conv => lhs; whnf
    congr 2
    unfold winE; grind
-- TimeFault
theorem z239 (a b : Int) : FSpec Tryz.prog 239 [.agg [.d (.int .i64 a), .d (.int .i64 b)]] [] (fun x o => x = .d (.int .i64 (timE a b)) ∧ o = []) := by
  refine spec_of hT (C := []) Tryz.func239 rfl Tryz.call239 rfl rfl rfl ?_
  conv => whnf
  repeat' (first
    | (refine br_intro (fun hb => ?_) (fun hb => ?_) <;> (try simp only [decide_eq_true_eq, decide_eq_false_iff_not, Bool.not_eq_true', Bool.not_eq_false', Bool.and_eq_true, Bool.or_eq_true, beq_iff_eq, not_and, Int.not_le, Int.not_lt, Int.toNat_natCast, beq_eq_false_iff_ne, ne_eq, eq_self, not_true_eq_false, not_false_eq_true] at hb) <;> (conv => whnf))
    | omega
    | (refine And.intro ?_ ?_; ((try dsimp only); first | omega | (refine ⟨by omega, by omega, Int.le_trans (Int.mul_le_mul_of_nonneg_right (Int.ofNat_le.2 (Nat.le_of_ble_eq_true (rfl : Nat.ble _ 1024 = true))) (by omega)) (by omega), by omega⟩) | (refine Nat.le_trans (Nat.mul_le_mul_left _ (Nat.le_of_ble_eq_true (rfl : Nat.ble _ 1024 = true))) ?_; omega) | (unfold inI64; omega) | (constructor <;> omega) | (simp only [inI64, List.length_cons, List.length_append, List.length_nil, List.length_set] at *; omega) | decide | (unfold inI64; decide)); conv => whnf)
    | omega | decide | assumption)
  all_goals
    refine .ret _ ?_
    conv => whnf
    refine ⟨[], ⟨?_, rfl⟩, trivial⟩
    conv => lhs; whnf
    congr 2
    unfold timE; grind
def daysW (a b : Int) : Int := (b - a + 1440 - 1).tdiv 1440
theorem daysW_lt {a b : Int} (h : a < b) : 120 < daysW a b ↔ 172800 < b - a := by
  unfold daysW
  rw [Int.tdiv_eq_ediv_of_nonneg (by omega)]
  omega
-- word.Days
theorem z311 (a b : Int) (h : 0 ≤ a ∧ a < b ∧ b ≤ 5761439) : FSpec Tryz.prog 311 [.agg [.d (.int .i64 a), .d (.int .i64 b)]] [] (fun x o => x = .d (.int .i64 (daysW a b)) ∧ o = []) := by
  obtain ⟨h1, h2, h3⟩ := h
  have hd : inI64 ((b - a + 1440 - 1).tdiv 1440) := by unfold inI64; rw [Int.tdiv_eq_ediv_of_nonneg (by omega)]; omega
  refine spec_of hT (C := []) Tryz.func311 rfl Tryz.call311 rfl rfl rfl ?_
  conv => whnf
  repeat' (first
    | (refine And.intro hd ?_; conv => whnf)
    | (refine br_intro (fun hb => ?_) (fun hb => ?_) <;> (try simp only [decide_eq_true_eq, decide_eq_false_iff_not, Bool.not_eq_true', Bool.not_eq_false', Bool.and_eq_true, Bool.or_eq_true, beq_iff_eq, not_and, Int.not_le, Int.not_lt, Int.toNat_natCast, beq_eq_false_iff_ne, ne_eq, eq_self, not_true_eq_false, not_false_eq_true] at hb) <;> (conv => whnf))
    | omega
    | (refine And.intro ?_ ?_; ((try dsimp only); first | omega | (refine ⟨by omega, by omega, Int.le_trans (Int.mul_le_mul_of_nonneg_right (Int.ofNat_le.2 (Nat.le_of_ble_eq_true (rfl : Nat.ble _ 1024 = true))) (by omega)) (by omega), by omega⟩) | (refine Nat.le_trans (Nat.mul_le_mul_left _ (Nat.le_of_ble_eq_true (rfl : Nat.ble _ 1024 = true))) ?_; omega) | (unfold inI64; omega) | (constructor <;> omega) | (simp only [inI64, List.length_cons, List.length_append, List.length_nil, List.length_set] at *; omega) | decide | (unfold inI64; decide)); conv => whnf)
    | omega | decide | assumption)
  refine .ret _ ?_
  conv => whnf
  refine ⟨[], ⟨?_, rfl⟩, trivial⟩
  conv => lhs; whnf
  rfl
-- word.Time
theorem z263 (a b : Int) : FSpec Tryz.prog 263 [.agg [.d (.int .i64 a), .d (.int .i64 b)]] [] (fun x o => x = .d (.int .i64 (timE a b)) ∧ o = []) := by
  have hd := daysW_lt (a := a) (b := b)
  refine spec_of hT (C := []) Tryz.func263 rfl Tryz.call263 rfl rfl rfl ?_
  conv => whnf
  repeat' (first
    | (refine CallX.exact (z311 a b ⟨by omega, by omega, by omega⟩) rfl rfl ?_; rotate_right; conv => whnf)
    | (refine CallX.exact (s107 _ _) rfl rfl ?_; rotate_right; conv => whnf)
    | (refine br_intro (fun hb => ?_) (fun hb => ?_) <;> (try simp only [decide_eq_true_eq, decide_eq_false_iff_not, Bool.not_eq_true', Bool.not_eq_false', Bool.and_eq_true, Bool.or_eq_true, beq_iff_eq, not_and, Int.not_le, Int.not_lt, Int.toNat_natCast, beq_eq_false_iff_ne, ne_eq, eq_self, not_true_eq_false, not_false_eq_true] at hb) <;> (conv => whnf))
    | omega
    | (refine And.intro ?_ ?_; ((try dsimp only); first | omega | (refine ⟨by omega, by omega, Int.le_trans (Int.mul_le_mul_of_nonneg_right (Int.ofNat_le.2 (Nat.le_of_ble_eq_true (rfl : Nat.ble _ 1024 = true))) (by omega)) (by omega), by omega⟩) | (refine Nat.le_trans (Nat.mul_le_mul_left _ (Nat.le_of_ble_eq_true (rfl : Nat.ble _ 1024 = true))) ?_; omega) | (unfold inI64; omega) | (constructor <;> omega) | (simp only [inI64, List.length_cons, List.length_append, List.length_nil, List.length_set] at *; omega) | decide | (unfold inI64; decide)); conv => whnf)
    | omega | decide | assumption)
  all_goals
    refine .ret _ ?_
    conv => whnf
    refine ⟨[], ⟨?_, rfl⟩, trivial⟩
    conv => lhs; whnf
    congr 2
    unfold timE; grind
-- legFault
set_option maxHeartbeats 2000000 in
theorem z240 (h : Hir) (hk : hiK h) (i : Nat) (hi : i < h.legs.length) : FSpec Tryz.prog 240 [.agg ((hiF h).map .d), .d (.int .i64 i)] [] (fun x o => x = .d (.int .i64 (legE h i)) ∧ o = []) := by
  have e1 : (i : Int).toNat = i := Int.toNat_natCast i
  have hl := hk.2.2.1
  have hx : lgK (h.legs.getD (i : Int).toNat lg0) := hk.2.2.2 _ (getD_mem (by omega))
  refine spec_of hT (C := []) Tryz.func240 rfl Tryz.call240 rfl rfl rfl ?_
  conv => whnf
  repeat' (first
    | (refine CallX.exact (s21 _ hx.1) rfl rfl ?_; rotate_right; conv => whnf)
    | (refine CallX.exact (z284 (h.legs.getD (i : Int).toNat lg0).out hx.2.1) rfl rfl ?_; rotate_right; conv => whnf)
    | (refine CallX.exact (z284 (h.legs.getD (i : Int).toNat lg0).inn hx.2.2) rfl rfl ?_; rotate_right; conv => whnf)
    | (refine br_intro (fun hb => ?_) (fun hb => ?_) <;> (try simp only [decide_eq_true_eq, decide_eq_false_iff_not, Bool.not_eq_true', Bool.not_eq_false', Bool.and_eq_true, Bool.or_eq_true, beq_iff_eq, not_and, Int.not_le, Int.not_lt, Int.toNat_natCast, beq_eq_false_iff_ne, ne_eq, eq_self, not_true_eq_false, not_false_eq_true] at hb) <;> (conv => whnf))
    | omega
    | (refine And.intro ?_ ?_; ((try dsimp only); first | omega | (refine ⟨by omega, by omega, Int.le_trans (Int.mul_le_mul_of_nonneg_right (Int.ofNat_le.2 (Nat.le_of_ble_eq_true (rfl : Nat.ble _ 1024 = true))) (by omega)) (by omega), by omega⟩) | (refine Nat.le_trans (Nat.mul_le_mul_left _ (Nat.le_of_ble_eq_true (rfl : Nat.ble _ 1024 = true))) ?_; omega) | (unfold inI64; omega) | (constructor <;> omega) | (simp only [inI64, List.length_cons, List.length_append, List.length_nil, List.length_set] at *; omega) | decide | (unfold inI64; decide)); conv => whnf)
    | omega | decide | assumption)
  all_goals
    refine .ret _ ?_
    conv => whnf
    refine ⟨[], ⟨?_, rfl⟩, trivial⟩
    conv => lhs; whnf
    congr 2
    clear hx hk
    simp only [e1, toNat_pred] at *
    unfold legE; grind
-- hire.checkLeg
set_option maxHeartbeats 2000000 in
theorem z264 (h : Hir) (hk : hiK h) (i : Nat) (hi : i < h.legs.length) : FSpec Tryz.prog 264 [.agg ((hiF h).map .d), .d (.int .i64 i)] [] (fun x o => x = .d (.int .i64 (legE h i)) ∧ o = []) := by
  have e1 : (i : Int).toNat = i := Int.toNat_natCast i
  have hl := hk.2.2.1
  have hx : lgK (h.legs.getD (i : Int).toNat lg0) := hk.2.2.2 _ (getD_mem (by omega))
  refine spec_of hT (C := []) Tryz.func264 rfl Tryz.call264 rfl rfl rfl ?_
  conv => whnf
  repeat' (first
    | (refine CallX.exact (s108 _ hx.1) rfl rfl ?_; rotate_right; conv => whnf)
    | (refine CallX.exact (z312 (h.legs.getD (i : Int).toNat lg0).out hx.2.1) rfl rfl ?_; rotate_right; conv => whnf)
    | (refine CallX.exact (z312 (h.legs.getD (i : Int).toNat lg0).inn hx.2.2) rfl rfl ?_; rotate_right; conv => whnf)
    | (refine CallX.exact (s107 _ _) rfl rfl ?_; rotate_right; conv => whnf)
    | (refine CallX.pure (s105 [_, _] (by simp)) ⟨SV.le_lit (by rfl) (by rfl), trivial⟩ rfl ?_; conv => whnf)
    | (refine br_intro (fun hb => ?_) (fun hb => ?_) <;> (try simp only [decide_eq_true_eq, decide_eq_false_iff_not, Bool.not_eq_true', Bool.not_eq_false', Bool.and_eq_true, Bool.or_eq_true, beq_iff_eq, not_and, Int.not_le, Int.not_lt, Int.toNat_natCast, beq_eq_false_iff_ne, ne_eq, eq_self, not_true_eq_false, not_false_eq_true] at hb) <;> (conv => whnf))
    | (refine RegX.rule (id := 2) hT rfl [] [(0, []), (1, []), (5, [0, 1]), (6, [0, 1]), (2, [5, 6]), (3, [5, 6]), (4, [5, 6]), (7, []), (8, []), (9, []), (10, [])] (by decide +kernel) ?_; conv => whnf)
    | (refine RegX.rule (id := 16) hT rfl [] [(0, []), (1, []), (2, [0, 1]), (3, []), (5, [0, 1, 2, 3]), (6, [0, 1, 2, 3, 5]), (7, [0, 1, 2, 3, 5]), (8, [0, 1, 2, 3, 5]), (9, [0, 1, 2, 3, 5]), (10, [0, 1, 2, 3]), (4, [5, 6, 7, 8, 9, 10]), (11, []), (12, []), (13, []), (14, [])] (by decide +kernel) ?_; conv => whnf)
    | (refine RegX.rule (id := 17) hT rfl [] [(0, []), (1, []), (3, [0, 1]), (4, [0, 1]), (5, [0, 1]), (6, [0, 1, 3, 4, 5]), (7, [0, 1, 3, 4, 5]), (8, [0, 1, 3, 4, 5]), (9, [0, 1]), (2, [3, 4, 5, 6, 7, 8, 9]), (10, []), (11, []), (12, []), (13, [])] (by decide +kernel) ?_; conv => whnf)
    | omega
    | (refine And.intro ?_ ?_; ((try dsimp only); first | omega | (refine ⟨by omega, by omega, Int.le_trans (Int.mul_le_mul_of_nonneg_right (Int.ofNat_le.2 (Nat.le_of_ble_eq_true (rfl : Nat.ble _ 1024 = true))) (by omega)) (by omega), by omega⟩) | (refine Nat.le_trans (Nat.mul_le_mul_left _ (Nat.le_of_ble_eq_true (rfl : Nat.ble _ 1024 = true))) ?_; omega) | (unfold inI64; omega) | (constructor <;> omega) | (simp only [inI64, List.length_cons, List.length_append, List.length_nil, List.length_set] at *; omega) | decide | (unfold inI64; decide)); conv => whnf)
    | omega | decide | assumption)
  all_goals
    refine .ret _ ?_
    conv => whnf
    refine ⟨[], ⟨?_, rfl⟩, trivial⟩
    conv => lhs; whnf
    congr 2
    clear hx hk
    simp only [e1, toNat_pred, firstE] at *
    unfold legE; grind
theorem hirE_bad {h : Hir} (q : isKeyB h.key = false ∨ isKeyB h.drv = false) : hirE h = 5 := by unfold hirE; rw [if_pos q]
theorem hirE_time {h : Hir} (q1 : isKeyB h.key = true) (q2 : isKeyB h.drv = true) (q : timE h.frm h.to ≠ 0) : hirE h = timE h.frm h.to := by
  unfold hirE; rw [if_neg (by rw [q1, q2]; simp), if_pos q]
theorem hirE_legs {h : Hir} (q1 : isKeyB h.key = true) (q2 : isKeyB h.drv = true) (q : timE h.frm h.to = 0) : hirE h = if h.legs.length = 0 then 3 else if 20 < h.legs.length then 2 else firstAt (legE h) h.legs.length := by
  unfold hirE; rw [if_neg (by rw [q1, q2]; simp), if_neg (by omega)]
-- HireFault
set_option maxHeartbeats 2000000 in
theorem z183 (h : Hir) (hk : hiK h) : FSpec Tryz.prog 183 [.agg ((hiF h).map .d)] [] (fun x o => x = .d (.int .i64 (hirE h)) ∧ o = []) := by
  have c1 := s21 h.key hk.1
  have c2 := s21 h.drv hk.2.1
  have c3 := z239 h.frm h.to
  have hl := hk.2.2.1
  cases q1 : isKeyB h.key with
  | false =>
    rw [hirE_bad (.inl q1)]
    rw [q1] at c1
    refine spec_of hT (C := []) Tryz.func183 rfl Tryz.call183 rfl rfl rfl ?_
    conv => whnf
    repeat' (first
      | (refine CallX.exact (c1) rfl rfl ?_; rotate_right; conv => whnf)
      | (refine br_intro (fun hb => ?_) (fun hb => ?_) <;> (try simp only [decide_eq_true_eq, decide_eq_false_iff_not, Bool.not_eq_true', Bool.not_eq_false', Bool.and_eq_true, Bool.or_eq_true, beq_iff_eq, not_and, Int.not_le, Int.not_lt, Int.toNat_natCast, beq_eq_false_iff_ne, ne_eq, eq_self, not_true_eq_false, not_false_eq_true] at hb) <;> (conv => whnf))
      | omega
      | (refine And.intro ?_ ?_; ((try dsimp only); first | omega | (refine ⟨by omega, by omega, Int.le_trans (Int.mul_le_mul_of_nonneg_right (Int.ofNat_le.2 (Nat.le_of_ble_eq_true (rfl : Nat.ble _ 1024 = true))) (by omega)) (by omega), by omega⟩) | (refine Nat.le_trans (Nat.mul_le_mul_left _ (Nat.le_of_ble_eq_true (rfl : Nat.ble _ 1024 = true))) ?_; omega) | (unfold inI64; omega) | (constructor <;> omega) | (simp only [inI64, List.length_cons, List.length_append, List.length_nil, List.length_set] at *; omega) | decide | (unfold inI64; decide)); conv => whnf)
      | omega | decide | assumption)
    refine .ret _ ?_
    conv => whnf
    refine ⟨[], ⟨?_, rfl⟩, trivial⟩
    conv => lhs; whnf
  | true =>
  rw [q1] at c1
  cases q2 : isKeyB h.drv with
  | false =>
    rw [hirE_bad (.inr q2)]
    rw [q2] at c2
    refine spec_of hT (C := []) Tryz.func183 rfl Tryz.call183 rfl rfl rfl ?_
    conv => whnf
    repeat' (first
      | (refine CallX.exact (c1) rfl rfl ?_; rotate_right; conv => whnf)
      | (refine CallX.exact (c2) rfl rfl ?_; rotate_right; conv => whnf)
      | (refine br_intro (fun hb => ?_) (fun hb => ?_) <;> (try simp only [decide_eq_true_eq, decide_eq_false_iff_not, Bool.not_eq_true', Bool.not_eq_false', Bool.and_eq_true, Bool.or_eq_true, beq_iff_eq, not_and, Int.not_le, Int.not_lt, Int.toNat_natCast, beq_eq_false_iff_ne, ne_eq, eq_self, not_true_eq_false, not_false_eq_true] at hb) <;> (conv => whnf))
      | omega
      | (refine And.intro ?_ ?_; ((try dsimp only); first | omega | (refine ⟨by omega, by omega, Int.le_trans (Int.mul_le_mul_of_nonneg_right (Int.ofNat_le.2 (Nat.le_of_ble_eq_true (rfl : Nat.ble _ 1024 = true))) (by omega)) (by omega), by omega⟩) | (refine Nat.le_trans (Nat.mul_le_mul_left _ (Nat.le_of_ble_eq_true (rfl : Nat.ble _ 1024 = true))) ?_; omega) | (unfold inI64; omega) | (constructor <;> omega) | (simp only [inI64, List.length_cons, List.length_append, List.length_nil, List.length_set] at *; omega) | decide | (unfold inI64; decide)); conv => whnf)
      | omega | decide | assumption)
    refine .ret _ ?_
    conv => whnf
    refine ⟨[], ⟨?_, rfl⟩, trivial⟩
    conv => lhs; whnf
  | true =>
  rw [q2] at c2
  by_cases q3 : timE h.frm h.to = 0
  · have hE := hirE_legs q1 q2 q3
    rw [hE]
    clear hE
    rw [q3] at c3
    by_cases q4 : h.legs.length = 0
    · rw [if_pos q4]
      refine spec_of hT (C := []) Tryz.func183 rfl Tryz.call183 rfl rfl rfl ?_
      conv => whnf
      repeat' (first
        | (refine CallX.exact (c1) rfl rfl ?_; rotate_right; conv => whnf)
        | (refine CallX.exact (c2) rfl rfl ?_; rotate_right; conv => whnf)
        | (refine CallX.exact (c3) rfl rfl ?_; rotate_right; conv => whnf)
        | (refine br_intro (fun hb => ?_) (fun hb => ?_) <;> (try simp only [decide_eq_true_eq, decide_eq_false_iff_not, Bool.not_eq_true', Bool.not_eq_false', Bool.and_eq_true, Bool.or_eq_true, beq_iff_eq, not_and, Int.not_le, Int.not_lt, Int.toNat_natCast, beq_eq_false_iff_ne, ne_eq, eq_self, not_true_eq_false, not_false_eq_true] at hb) <;> (conv => whnf))
        | omega
        | (refine And.intro ?_ ?_; ((try dsimp only); first | omega | (refine ⟨by omega, by omega, Int.le_trans (Int.mul_le_mul_of_nonneg_right (Int.ofNat_le.2 (Nat.le_of_ble_eq_true (rfl : Nat.ble _ 1024 = true))) (by omega)) (by omega), by omega⟩) | (refine Nat.le_trans (Nat.mul_le_mul_left _ (Nat.le_of_ble_eq_true (rfl : Nat.ble _ 1024 = true))) ?_; omega) | (unfold inI64; omega) | (constructor <;> omega) | (simp only [inI64, List.length_cons, List.length_append, List.length_nil, List.length_set] at *; omega) | decide | (unfold inI64; decide)); conv => whnf)
        | omega | decide | assumption)
      all_goals first
        | (exfalso; omega)
        | (refine .ret _ ?_
           conv => whnf
           refine ⟨[], ⟨?_, rfl⟩, trivial⟩
           conv => lhs; whnf
           all_goals rfl)
    by_cases q5 : 20 < h.legs.length
    · rw [if_neg q4, if_pos q5]
      refine spec_of hT (C := []) Tryz.func183 rfl Tryz.call183 rfl rfl rfl ?_
      conv => whnf
      repeat' (first
        | (refine CallX.exact (c1) rfl rfl ?_; rotate_right; conv => whnf)
        | (refine CallX.exact (c2) rfl rfl ?_; rotate_right; conv => whnf)
        | (refine CallX.exact (c3) rfl rfl ?_; rotate_right; conv => whnf)
        | (refine br_intro (fun hb => ?_) (fun hb => ?_) <;> (try simp only [decide_eq_true_eq, decide_eq_false_iff_not, Bool.not_eq_true', Bool.not_eq_false', Bool.and_eq_true, Bool.or_eq_true, beq_iff_eq, not_and, Int.not_le, Int.not_lt, Int.toNat_natCast, beq_eq_false_iff_ne, ne_eq, eq_self, not_true_eq_false, not_false_eq_true] at hb) <;> (conv => whnf))
        | omega
        | (refine And.intro ?_ ?_; ((try dsimp only); first | omega | (refine ⟨by omega, by omega, Int.le_trans (Int.mul_le_mul_of_nonneg_right (Int.ofNat_le.2 (Nat.le_of_ble_eq_true (rfl : Nat.ble _ 1024 = true))) (by omega)) (by omega), by omega⟩) | (refine Nat.le_trans (Nat.mul_le_mul_left _ (Nat.le_of_ble_eq_true (rfl : Nat.ble _ 1024 = true))) ?_; omega) | (unfold inI64; omega) | (constructor <;> omega) | (simp only [inI64, List.length_cons, List.length_append, List.length_nil, List.length_set] at *; omega) | decide | (unfold inI64; decide)); conv => whnf)
        | omega | decide | assumption)
      all_goals first
        | (exfalso; omega)
        | (refine .ret _ ?_
           conv => whnf
           refine ⟨[], ⟨?_, rfl⟩, trivial⟩
           conv => lhs; whnf
           all_goals rfl)
    obtain ⟨F, hfin⟩ : ∃ F : Int, F = firstAt (legE h) h.legs.length := ⟨_, rfl⟩
    rw [if_neg q4, if_neg q5, ← hfin]
    refine spec_of hT (C := []) Tryz.func183 rfl Tryz.call183 rfl rfl rfl ?_
    conv => whnf
    repeat' (first
      | (refine CallX.exact (c1) rfl rfl ?_; rotate_right; conv => whnf)
      | (refine CallX.exact (c2) rfl rfl ?_; rotate_right; conv => whnf)
      | (refine CallX.exact (c3) rfl rfl ?_; rotate_right; conv => whnf)
      | (refine br_intro (fun hb => ?_) (fun hb => ?_) <;> (try simp only [decide_eq_true_eq, decide_eq_false_iff_not, Bool.not_eq_true', Bool.not_eq_false', Bool.and_eq_true, Bool.or_eq_true, beq_iff_eq, not_and, Int.not_le, Int.not_lt, Int.toNat_natCast, beq_eq_false_iff_ne, ne_eq, eq_self, not_true_eq_false, not_false_eq_true] at hb) <;> (conv => whnf))
      | omega
      | (refine And.intro ?_ ?_; ((try dsimp only); first | omega | (refine ⟨by omega, by omega, Int.le_trans (Int.mul_le_mul_of_nonneg_right (Int.ofNat_le.2 (Nat.le_of_ble_eq_true (rfl : Nat.ble _ 1024 = true))) (by omega)) (by omega), by omega⟩) | (refine Nat.le_trans (Nat.mul_le_mul_left _ (Nat.le_of_ble_eq_true (rfl : Nat.ble _ 1024 = true))) ?_; omega) | (unfold inI64; omega) | (constructor <;> omega) | (simp only [inI64, List.length_cons, List.length_append, List.length_nil, List.length_set] at *; omega) | decide | (unfold inI64; decide)); conv => whnf)
      | omega | decide | assumption)
    all_goals first
      | (exfalso; omega)
      | skip
    refine LoopX.rule hT (C := []) (ι := Nat) (fun i => i ≤ h.legs.length ∧ ∀ j, j < i → legE h j = 0) (fun i => mkSt [(1, .ptr 1 0), (34, .d (.int .i64 h.legs.length)), (35, .d (.int .i64 i))] [(1, hcell h)]) (fun i => h.legs.length - i) 0 ⟨by omega, by omega⟩ (by refine Entails.mk' [(1, 1)] rfl rfl ?_ ?_ <;> repeat' (first | exact True.intro | exact SV.le_refl _ | exact Res.le_refl _ | exact SV.le_int (by omega) | exact SV.le_any _ | refine And.intro ?_ ?_)) ?_
    rintro i ⟨p1, p2⟩
    have e1 : (i : Int).toNat = i := Int.toNat_natCast i
    conv => whnf
    repeat' (first
      | (refine CallX.pure (z240 h hk i (by omega)) ⟨SV.le_refl _, SV.le_refl _, trivial⟩ rfl ?_; conv => whnf)
      | (refine br_intro (fun hb => ?_) (fun hb => ?_) <;> (try simp only [decide_eq_true_eq, decide_eq_false_iff_not, Bool.not_eq_true', Bool.not_eq_false', Bool.and_eq_true, Bool.or_eq_true, beq_iff_eq, not_and, Int.not_le, Int.not_lt, Int.toNat_natCast, beq_eq_false_iff_ne, ne_eq, eq_self, not_true_eq_false, not_false_eq_true] at hb) <;> (conv => whnf))
      | omega
      | (refine And.intro ?_ ?_; ((try dsimp only); first | omega | (refine ⟨by omega, by omega, Int.le_trans (Int.mul_le_mul_of_nonneg_right (Int.ofNat_le.2 (Nat.le_of_ble_eq_true (rfl : Nat.ble _ 1024 = true))) (by omega)) (by omega), by omega⟩) | (refine Nat.le_trans (Nat.mul_le_mul_left _ (Nat.le_of_ble_eq_true (rfl : Nat.ble _ 1024 = true))) ?_; omega) | (unfold inI64; omega) | (constructor <;> omega) | (simp only [inI64, List.length_cons, List.length_append, List.length_nil, List.length_set] at *; omega) | decide | (unfold inI64; decide)); conv => whnf)
      | omega | decide | assumption)
    · refine .ret _ ?_
      conv => whnf
      refine ⟨[], ⟨?_, rfl⟩, trivial⟩
      conv => lhs; whnf
      congr 2
      rw [hfin]
      exact (firstAt_eq (by omega) p2 (by simpa using hb) rfl).symm
    · exact ⟨i + 1, ⟨by omega, first_step p2 (by simpa using hb)⟩, by omega, (by refine Entails.mk' [(1, 1)] rfl rfl ?_ ?_ <;> repeat' (first | exact True.intro | exact SV.le_refl _ | exact Res.le_refl _ | exact SV.le_int (by omega) | exact SV.le_any _ | refine And.intro ?_ ?_))⟩
    · refine .ret _ ?_
      conv => whnf
      refine ⟨[], ⟨?_, rfl⟩, trivial⟩
      conv => lhs; whnf
      congr 2
      have : i = h.legs.length := by omega
      subst this
      rw [hfin, firstAt_zero p2]
  · rw [hirE_time q1 q2 q3]
    generalize timE h.frm h.to = E at c3 q3
    refine spec_of hT (C := []) Tryz.func183 rfl Tryz.call183 rfl rfl rfl ?_
    conv => whnf
    repeat' (first
      | (refine CallX.exact (c1) rfl rfl ?_; rotate_right; conv => whnf)
      | (refine CallX.exact (c2) rfl rfl ?_; rotate_right; conv => whnf)
      | (refine CallX.exact (c3) rfl rfl ?_; rotate_right; conv => whnf)
      | (refine br_intro (fun hb => ?_) (fun hb => ?_) <;> (try simp only [decide_eq_true_eq, decide_eq_false_iff_not, Bool.not_eq_true', Bool.not_eq_false', Bool.and_eq_true, Bool.or_eq_true, beq_iff_eq, not_and, Int.not_le, Int.not_lt, Int.toNat_natCast, beq_eq_false_iff_ne, ne_eq, eq_self, not_true_eq_false, not_false_eq_true] at hb) <;> (conv => whnf))
      | omega
      | (refine And.intro ?_ ?_; ((try dsimp only); first | omega | (refine ⟨by omega, by omega, Int.le_trans (Int.mul_le_mul_of_nonneg_right (Int.ofNat_le.2 (Nat.le_of_ble_eq_true (rfl : Nat.ble _ 1024 = true))) (by omega)) (by omega), by omega⟩) | (refine Nat.le_trans (Nat.mul_le_mul_left _ (Nat.le_of_ble_eq_true (rfl : Nat.ble _ 1024 = true))) ?_; omega) | (unfold inI64; omega) | (constructor <;> omega) | (simp only [inI64, List.length_cons, List.length_append, List.length_nil, List.length_set] at *; omega) | decide | (unfold inI64; decide)); conv => whnf)
      | omega | decide | assumption)
    all_goals first
      | (exfalso; omega)
      | (refine .ret _ ?_
         conv => whnf
         refine ⟨[], ⟨?_, rfl⟩, trivial⟩
         conv => lhs; whnf
         all_goals rfl)
-- hire.Check
set_option maxHeartbeats 2000000 in
theorem z210 (h : Hir) (hk : hiK h) : FSpec Tryz.prog 210 [.agg ((hiF h).map .d)] [] (fun x o => x = .d (.int .i64 (hirE h)) ∧ o = []) := by
  have c1 := s108 h.key hk.1
  have c2 := s108 h.drv hk.2.1
  have c3 := z263 h.frm h.to
  have hl := hk.2.2.1
  have c5 := s105 [5, timE h.frm h.to] (by simp)
  rw [show firstE [5, timE h.frm h.to] = 5 from rfl] at c5
  have c6 := s105 [0, timE h.frm h.to] (by simp)
  rw [show firstE [0, timE h.frm h.to] = timE h.frm h.to from by simp only [firstE]; grind] at c6
  cases q1 : isKeyB h.key with
  | false =>
    rw [hirE_bad (.inl q1)]
    rw [q1] at c1
    generalize timE h.frm h.to = E at c3 c5 c6
    refine spec_of hT (C := []) Tryz.func210 rfl Tryz.call210 rfl rfl rfl ?_
    conv => whnf
    repeat' (first
      | (refine CallX.exact (c1) rfl rfl ?_; rotate_right; conv => whnf)
      | (refine CallX.exact (c3) rfl rfl ?_; rotate_right; conv => whnf)
      | (refine CallX.exact (s107 _ _) rfl rfl ?_; rotate_right; conv => whnf)
      | (refine CallX.pure c5 ⟨SV.le_lit (by rfl) (by rfl), trivial⟩ rfl ?_; conv => whnf)
      | (refine br_intro (fun hb => ?_) (fun hb => ?_) <;> (try simp only [decide_eq_true_eq, decide_eq_false_iff_not, Bool.not_eq_true', Bool.not_eq_false', Bool.and_eq_true, Bool.or_eq_true, beq_iff_eq, not_and, Int.not_le, Int.not_lt, Int.toNat_natCast, beq_eq_false_iff_ne, ne_eq, eq_self, not_true_eq_false, not_false_eq_true] at hb) <;> (conv => whnf))
      | (refine RegX.rule (id := 1) hT rfl [] [(0, []), (1, []), (11, [0, 1]), (12, [0, 1]), (2, [11, 12]), (3, [11, 12]), (4, [11, 12]), (5, [11, 12]), (6, [11, 12]), (7, [11, 12]), (8, [11, 12]), (9, [11, 12]), (10, [11, 12]), (13, []), (14, []), (15, []), (16, [])] (by decide +kernel) ?_; conv => whnf)
      | omega
      | (refine And.intro ?_ ?_; ((try dsimp only); first | omega | (refine ⟨by omega, by omega, Int.le_trans (Int.mul_le_mul_of_nonneg_right (Int.ofNat_le.2 (Nat.le_of_ble_eq_true (rfl : Nat.ble _ 1024 = true))) (by omega)) (by omega), by omega⟩) | (refine Nat.le_trans (Nat.mul_le_mul_left _ (Nat.le_of_ble_eq_true (rfl : Nat.ble _ 1024 = true))) ?_; omega) | (unfold inI64; omega) | (constructor <;> omega) | (simp only [inI64, List.length_cons, List.length_append, List.length_nil, List.length_set] at *; omega) | decide | (unfold inI64; decide)); conv => whnf)
      | omega | decide | assumption)
    refine .ret _ ?_
    conv => whnf
    refine ⟨[], ⟨?_, rfl⟩, trivial⟩
    conv => lhs; whnf
  | true =>
  rw [q1] at c1
  cases q2 : isKeyB h.drv with
  | false =>
    rw [hirE_bad (.inr q2)]
    rw [q2] at c2
    generalize timE h.frm h.to = E at c3 c5 c6
    refine spec_of hT (C := []) Tryz.func210 rfl Tryz.call210 rfl rfl rfl ?_
    conv => whnf
    repeat' (first
      | (refine CallX.exact (c1) rfl rfl ?_; rotate_right; conv => whnf)
      | (refine CallX.exact (c2) rfl rfl ?_; rotate_right; conv => whnf)
      | (refine CallX.exact (c3) rfl rfl ?_; rotate_right; conv => whnf)
      | (refine CallX.exact (s107 _ _) rfl rfl ?_; rotate_right; conv => whnf)
      | (refine CallX.pure c5 ⟨SV.le_lit (by rfl) (by rfl), trivial⟩ rfl ?_; conv => whnf)
      | (refine br_intro (fun hb => ?_) (fun hb => ?_) <;> (try simp only [decide_eq_true_eq, decide_eq_false_iff_not, Bool.not_eq_true', Bool.not_eq_false', Bool.and_eq_true, Bool.or_eq_true, beq_iff_eq, not_and, Int.not_le, Int.not_lt, Int.toNat_natCast, beq_eq_false_iff_ne, ne_eq, eq_self, not_true_eq_false, not_false_eq_true] at hb) <;> (conv => whnf))
      | (refine RegX.rule (id := 1) hT rfl [] [(0, []), (1, []), (11, [0, 1]), (12, [0, 1]), (2, [11, 12]), (3, [11, 12]), (4, [11, 12]), (5, [11, 12]), (6, [11, 12]), (7, [11, 12]), (8, [11, 12]), (9, [11, 12]), (10, [11, 12]), (13, []), (14, []), (15, []), (16, [])] (by decide +kernel) ?_; conv => whnf)
      | omega
      | (refine And.intro ?_ ?_; ((try dsimp only); first | omega | (refine ⟨by omega, by omega, Int.le_trans (Int.mul_le_mul_of_nonneg_right (Int.ofNat_le.2 (Nat.le_of_ble_eq_true (rfl : Nat.ble _ 1024 = true))) (by omega)) (by omega), by omega⟩) | (refine Nat.le_trans (Nat.mul_le_mul_left _ (Nat.le_of_ble_eq_true (rfl : Nat.ble _ 1024 = true))) ?_; omega) | (unfold inI64; omega) | (constructor <;> omega) | (simp only [inI64, List.length_cons, List.length_append, List.length_nil, List.length_set] at *; omega) | decide | (unfold inI64; decide)); conv => whnf)
      | omega | decide | assumption)
    refine .ret _ ?_
    conv => whnf
    refine ⟨[], ⟨?_, rfl⟩, trivial⟩
    conv => lhs; whnf
  | true =>
  rw [q2] at c2
  by_cases q3 : timE h.frm h.to = 0
  · have hE := hirE_legs q1 q2 q3
    rw [hE]
    clear hE
    rw [q3] at c3 c6
    by_cases q4 : h.legs.length = 0
    · rw [if_pos q4]
      refine spec_of hT (C := []) Tryz.func210 rfl Tryz.call210 rfl rfl rfl ?_
      conv => whnf
      repeat' (first
        | (refine CallX.exact (c1) rfl rfl ?_; rotate_right; conv => whnf)
        | (refine CallX.exact (c2) rfl rfl ?_; rotate_right; conv => whnf)
        | (refine CallX.exact (c3) rfl rfl ?_; rotate_right; conv => whnf)
        | (refine CallX.exact (s107 _ _) rfl rfl ?_; rotate_right; conv => whnf)
        | (refine CallX.pure c6 ⟨SV.le_lit (by rfl) (by rfl), trivial⟩ rfl ?_; conv => whnf)
        | (refine br_intro (fun hb => ?_) (fun hb => ?_) <;> (try simp only [decide_eq_true_eq, decide_eq_false_iff_not, Bool.not_eq_true', Bool.not_eq_false', Bool.and_eq_true, Bool.or_eq_true, beq_iff_eq, not_and, Int.not_le, Int.not_lt, Int.toNat_natCast, beq_eq_false_iff_ne, ne_eq, eq_self, not_true_eq_false, not_false_eq_true] at hb) <;> (conv => whnf))
        | (refine RegX.rule (id := 1) hT rfl [] [(0, []), (1, []), (11, [0, 1]), (12, [0, 1]), (2, [11, 12]), (3, [11, 12]), (4, [11, 12]), (5, [11, 12]), (6, [11, 12]), (7, [11, 12]), (8, [11, 12]), (9, [11, 12]), (10, [11, 12]), (13, []), (14, []), (15, []), (16, [])] (by decide +kernel) ?_; conv => whnf)
        | omega
        | (refine And.intro ?_ ?_; ((try dsimp only); first | omega | (refine ⟨by omega, by omega, Int.le_trans (Int.mul_le_mul_of_nonneg_right (Int.ofNat_le.2 (Nat.le_of_ble_eq_true (rfl : Nat.ble _ 1024 = true))) (by omega)) (by omega), by omega⟩) | (refine Nat.le_trans (Nat.mul_le_mul_left _ (Nat.le_of_ble_eq_true (rfl : Nat.ble _ 1024 = true))) ?_; omega) | (unfold inI64; omega) | (constructor <;> omega) | (simp only [inI64, List.length_cons, List.length_append, List.length_nil, List.length_set] at *; omega) | decide | (unfold inI64; decide)); conv => whnf)
        | omega | decide | assumption)
      all_goals first
        | (exfalso; omega)
        | (refine .ret _ ?_
           conv => whnf
           refine ⟨[], ⟨?_, rfl⟩, trivial⟩
           conv => lhs; whnf
           all_goals rfl)
    by_cases q5 : 20 < h.legs.length
    · rw [if_neg q4, if_pos q5]
      refine spec_of hT (C := []) Tryz.func210 rfl Tryz.call210 rfl rfl rfl ?_
      conv => whnf
      repeat' (first
        | (refine CallX.exact (c1) rfl rfl ?_; rotate_right; conv => whnf)
        | (refine CallX.exact (c2) rfl rfl ?_; rotate_right; conv => whnf)
        | (refine CallX.exact (c3) rfl rfl ?_; rotate_right; conv => whnf)
        | (refine CallX.exact (s107 _ _) rfl rfl ?_; rotate_right; conv => whnf)
        | (refine CallX.pure c6 ⟨SV.le_lit (by rfl) (by rfl), trivial⟩ rfl ?_; conv => whnf)
        | (refine br_intro (fun hb => ?_) (fun hb => ?_) <;> (try simp only [decide_eq_true_eq, decide_eq_false_iff_not, Bool.not_eq_true', Bool.not_eq_false', Bool.and_eq_true, Bool.or_eq_true, beq_iff_eq, not_and, Int.not_le, Int.not_lt, Int.toNat_natCast, beq_eq_false_iff_ne, ne_eq, eq_self, not_true_eq_false, not_false_eq_true] at hb) <;> (conv => whnf))
        | (refine RegX.rule (id := 1) hT rfl [] [(0, []), (1, []), (11, [0, 1]), (12, [0, 1]), (2, [11, 12]), (3, [11, 12]), (4, [11, 12]), (5, [11, 12]), (6, [11, 12]), (7, [11, 12]), (8, [11, 12]), (9, [11, 12]), (10, [11, 12]), (13, []), (14, []), (15, []), (16, [])] (by decide +kernel) ?_; conv => whnf)
        | omega
        | (refine And.intro ?_ ?_; ((try dsimp only); first | omega | (refine ⟨by omega, by omega, Int.le_trans (Int.mul_le_mul_of_nonneg_right (Int.ofNat_le.2 (Nat.le_of_ble_eq_true (rfl : Nat.ble _ 1024 = true))) (by omega)) (by omega), by omega⟩) | (refine Nat.le_trans (Nat.mul_le_mul_left _ (Nat.le_of_ble_eq_true (rfl : Nat.ble _ 1024 = true))) ?_; omega) | (unfold inI64; omega) | (constructor <;> omega) | (simp only [inI64, List.length_cons, List.length_append, List.length_nil, List.length_set] at *; omega) | decide | (unfold inI64; decide)); conv => whnf)
        | omega | decide | assumption)
      all_goals first
        | (exfalso; omega)
        | (refine .ret _ ?_
           conv => whnf
           refine ⟨[], ⟨?_, rfl⟩, trivial⟩
           conv => lhs; whnf
           all_goals rfl)
    obtain ⟨F, hfin⟩ : ∃ F : Int, F = firstAt (legE h) h.legs.length := ⟨_, rfl⟩
    rw [if_neg q4, if_neg q5, ← hfin]
    refine spec_of hT (C := []) Tryz.func210 rfl Tryz.call210 rfl rfl rfl ?_
    conv => whnf
    repeat' (first
      | (refine CallX.exact (c1) rfl rfl ?_; rotate_right; conv => whnf)
      | (refine CallX.exact (c2) rfl rfl ?_; rotate_right; conv => whnf)
      | (refine CallX.exact (c3) rfl rfl ?_; rotate_right; conv => whnf)
      | (refine CallX.exact (s107 _ _) rfl rfl ?_; rotate_right; conv => whnf)
      | (refine CallX.pure c6 ⟨SV.le_lit (by rfl) (by rfl), trivial⟩ rfl ?_; conv => whnf)
      | (refine br_intro (fun hb => ?_) (fun hb => ?_) <;> (try simp only [decide_eq_true_eq, decide_eq_false_iff_not, Bool.not_eq_true', Bool.not_eq_false', Bool.and_eq_true, Bool.or_eq_true, beq_iff_eq, not_and, Int.not_le, Int.not_lt, Int.toNat_natCast, beq_eq_false_iff_ne, ne_eq, eq_self, not_true_eq_false, not_false_eq_true] at hb) <;> (conv => whnf))
      | (refine RegX.rule (id := 1) hT rfl [] [(0, []), (1, []), (11, [0, 1]), (12, [0, 1]), (2, [11, 12]), (3, [11, 12]), (4, [11, 12]), (5, [11, 12]), (6, [11, 12]), (7, [11, 12]), (8, [11, 12]), (9, [11, 12]), (10, [11, 12]), (13, []), (14, []), (15, []), (16, [])] (by decide +kernel) ?_; conv => whnf)
      | omega
      | (refine And.intro ?_ ?_; ((try dsimp only); first | omega | (refine ⟨by omega, by omega, Int.le_trans (Int.mul_le_mul_of_nonneg_right (Int.ofNat_le.2 (Nat.le_of_ble_eq_true (rfl : Nat.ble _ 1024 = true))) (by omega)) (by omega), by omega⟩) | (refine Nat.le_trans (Nat.mul_le_mul_left _ (Nat.le_of_ble_eq_true (rfl : Nat.ble _ 1024 = true))) ?_; omega) | (unfold inI64; omega) | (constructor <;> omega) | (simp only [inI64, List.length_cons, List.length_append, List.length_nil, List.length_set] at *; omega) | decide | (unfold inI64; decide)); conv => whnf)
      | omega | decide | assumption)
    all_goals first
      | (exfalso; omega)
      | skip
    refine LoopX.rule hT (C := []) (ι := Nat) (fun i => i ≤ h.legs.length ∧ ∀ j, j < i → legE h j = 0) (fun i => mkSt [(1, .ptr 1 0), (37, .d (.int .i64 h.legs.length)), (38, .d (.int .i64 i))] [(1, hcell h)]) (fun i => h.legs.length - i) 0 ⟨by omega, by omega⟩ (by refine Entails.mk' [(1, 1)] rfl rfl ?_ ?_ <;> repeat' (first | exact True.intro | exact SV.le_refl _ | exact Res.le_refl _ | exact SV.le_int (by omega) | exact SV.le_any _ | refine And.intro ?_ ?_)) ?_
    rintro i ⟨p1, p2⟩
    have e1 : (i : Int).toNat = i := Int.toNat_natCast i
    conv => whnf
    repeat' (first
      | (refine CallX.pure (z264 h hk i (by omega)) ⟨SV.le_refl _, SV.le_refl _, trivial⟩ rfl ?_; conv => whnf)
      | (refine br_intro (fun hb => ?_) (fun hb => ?_) <;> (try simp only [decide_eq_true_eq, decide_eq_false_iff_not, Bool.not_eq_true', Bool.not_eq_false', Bool.and_eq_true, Bool.or_eq_true, beq_iff_eq, not_and, Int.not_le, Int.not_lt, Int.toNat_natCast, beq_eq_false_iff_ne, ne_eq, eq_self, not_true_eq_false, not_false_eq_true] at hb) <;> (conv => whnf))
      | (refine RegX.rule (id := 1) hT rfl [] [(0, []), (1, []), (11, [0, 1]), (12, [0, 1]), (2, [11, 12]), (3, [11, 12]), (4, [11, 12]), (5, [11, 12]), (6, [11, 12]), (7, [11, 12]), (8, [11, 12]), (9, [11, 12]), (10, [11, 12]), (13, []), (14, []), (15, []), (16, [])] (by decide +kernel) ?_; conv => whnf)
      | omega
      | (refine And.intro ?_ ?_; ((try dsimp only); first | omega | (refine ⟨by omega, by omega, Int.le_trans (Int.mul_le_mul_of_nonneg_right (Int.ofNat_le.2 (Nat.le_of_ble_eq_true (rfl : Nat.ble _ 1024 = true))) (by omega)) (by omega), by omega⟩) | (refine Nat.le_trans (Nat.mul_le_mul_left _ (Nat.le_of_ble_eq_true (rfl : Nat.ble _ 1024 = true))) ?_; omega) | (unfold inI64; omega) | (constructor <;> omega) | (simp only [inI64, List.length_cons, List.length_append, List.length_nil, List.length_set] at *; omega) | decide | (unfold inI64; decide)); conv => whnf)
      | omega | decide | assumption)
    · refine .ret _ ?_
      conv => whnf
      refine ⟨[], ⟨?_, rfl⟩, trivial⟩
      conv => lhs; whnf
      congr 2
      rw [hfin]
      exact (firstAt_eq (by omega) p2 (by simpa using hb) rfl).symm
    · exact ⟨i + 1, ⟨by omega, first_step p2 (by simpa using hb)⟩, by omega, (by refine Entails.mk' [(1, 1)] rfl rfl ?_ ?_ <;> repeat' (first | exact True.intro | exact SV.le_refl _ | exact Res.le_refl _ | exact SV.le_int (by omega) | exact SV.le_any _ | refine And.intro ?_ ?_))⟩
    · refine .ret _ ?_
      conv => whnf
      refine ⟨[], ⟨?_, rfl⟩, trivial⟩
      conv => lhs; whnf
      congr 2
      have : i = h.legs.length := by omega
      subst this
      rw [hfin, firstAt_zero p2]
  · rw [hirE_time q1 q2 q3]
    generalize timE h.frm h.to = E at c3 q3 c5 c6
    refine spec_of hT (C := []) Tryz.func210 rfl Tryz.call210 rfl rfl rfl ?_
    conv => whnf
    repeat' (first
      | (refine CallX.exact (c1) rfl rfl ?_; rotate_right; conv => whnf)
      | (refine CallX.exact (c2) rfl rfl ?_; rotate_right; conv => whnf)
      | (refine CallX.exact (c3) rfl rfl ?_; rotate_right; conv => whnf)
      | (refine CallX.exact (s107 _ _) rfl rfl ?_; rotate_right; conv => whnf)
      | (refine CallX.pure c6 ⟨SV.le_lit (by rfl) (by rfl), trivial⟩ rfl ?_; conv => whnf)
      | (refine br_intro (fun hb => ?_) (fun hb => ?_) <;> (try simp only [decide_eq_true_eq, decide_eq_false_iff_not, Bool.not_eq_true', Bool.not_eq_false', Bool.and_eq_true, Bool.or_eq_true, beq_iff_eq, not_and, Int.not_le, Int.not_lt, Int.toNat_natCast, beq_eq_false_iff_ne, ne_eq, eq_self, not_true_eq_false, not_false_eq_true] at hb) <;> (conv => whnf))
      | (refine RegX.rule (id := 1) hT rfl [] [(0, []), (1, []), (11, [0, 1]), (12, [0, 1]), (2, [11, 12]), (3, [11, 12]), (4, [11, 12]), (5, [11, 12]), (6, [11, 12]), (7, [11, 12]), (8, [11, 12]), (9, [11, 12]), (10, [11, 12]), (13, []), (14, []), (15, []), (16, [])] (by decide +kernel) ?_; conv => whnf)
      | omega
      | (refine And.intro ?_ ?_; ((try dsimp only); first | omega | (refine ⟨by omega, by omega, Int.le_trans (Int.mul_le_mul_of_nonneg_right (Int.ofNat_le.2 (Nat.le_of_ble_eq_true (rfl : Nat.ble _ 1024 = true))) (by omega)) (by omega), by omega⟩) | (refine Nat.le_trans (Nat.mul_le_mul_left _ (Nat.le_of_ble_eq_true (rfl : Nat.ble _ 1024 = true))) ?_; omega) | (unfold inI64; omega) | (constructor <;> omega) | (simp only [inI64, List.length_cons, List.length_append, List.length_nil, List.length_set] at *; omega) | decide | (unfold inI64; decide)); conv => whnf)
      | omega | decide | assumption)
    all_goals first
      | (exfalso; omega)
      | (refine .ret _ ?_
         conv => whnf
         refine ⟨[], ⟨?_, rfl⟩, trivial⟩
         conv => lhs; whnf
         all_goals rfl)
-- hire.CheckAll
set_option maxHeartbeats 2000000 in
theorem z124 (l : List Hir) (hk : hiOk l) : FSpec Tryz.prog 124 [.d (hirs l)] [] (fun x r => x = .d (.int .i64 (hirsE l)) ∧ r = []) := by
  refine spec_of hT (C := []) Tryz.func124 rfl Tryz.call124 rfl rfl rfl ?_
  conv => whnf
  refine br_intro (fun h0 => ?_) (fun h0 => ?_)
  · simp at h0
    conv => whnf
    refine .ret _ ?_
    conv => whnf
    refine ⟨[], ⟨?_, rfl⟩, trivial⟩
    conv => lhs; whnf
    unfold hirsE; rw [if_pos (by omega)]
  simp at h0
  conv => whnf
  refine LoopX.rule hT (C := []) (ι := Nat) (fun i => i ≤ l.length ∧ ∀ j, j < i → hirsE1 l j = 0) (fun i => mkSt [(0, .d (hirs l)), (9, .d (hirs l)), (10, .d (.int .i64 l.length)), (11, .d (.int .i64 i))] []) (fun i => l.length - i) 0 ⟨by omega, by omega⟩ (by refine Entails.mk' [] rfl rfl ?_ ?_ <;> repeat' (first | exact True.intro | exact SV.le_refl _ | exact Res.le_refl _ | exact SV.le_int (by omega) | exact SV.le_any _ | refine And.intro ?_ ?_)) ?_
  rintro i ⟨p1, p2⟩
  have hx : (i : Int) < l.length → hiK (l.getD (i : Int).toNat hi0) := fun hi => hk.2 _ (getD_mem (by omega))
  have e1 : (i : Int).toNat = i := Int.toNat_natCast i
  have em : (max ((i : Int) - 1) 0).toNat = i - 1 := by omega
  have hbad : ∀ e : Int, i < l.length → e ≠ 0 → hirsE1 l i = e → hirsE l = e := fun e h h1 h2 => by
    unfold hirsE; rw [if_neg (by omega)]
    exact firstAt_eq h p2 h1 h2
  conv => whnf
  repeat' (first
    | (refine And.intro (show 0 ≤ max ((i : Int) - 1) 0 ∧ max ((i : Int) - 1) 0 < (l.length : Int) from by omega) ?_; conv => whnf)
    | (refine CallX.pure (z210 (l.getD (i : Int).toNat hi0) (hx (by omega))) ⟨SV.le_refl _, trivial⟩ rfl ?_; conv => whnf)
    | (refine CallX.exact (s107 _ _) rfl rfl ?_; rotate_right; conv => whnf)
    | (refine CallX.pure (s105 [_, _] (by simp)) ⟨SV.le_lit (by rfl) (by rfl), trivial⟩ rfl ?_; conv => whnf)
    | (refine br_intro (fun hb => ?_) (fun hb => ?_) <;> (try simp only [decide_eq_true_eq, decide_eq_false_iff_not, Bool.not_eq_true', Bool.not_eq_false', Bool.and_eq_true, Bool.or_eq_true, beq_iff_eq, not_and, Int.not_le, Int.not_lt, Int.toNat_natCast, beq_eq_false_iff_ne, ne_eq, eq_self, not_true_eq_false, not_false_eq_true] at hb) <;> (conv => whnf))
    | (refine RegX.rule (id := 6) hT rfl [] [(0, []), (2, [0]), (3, [0]), (1, [2, 3]), (4, []), (5, []), (6, []), (7, [5, 6]), (8, [5, 6, 7]), (9, [5, 6, 7]), (10, [5, 6, 7]), (11, [5, 6]), (12, [5, 6]), (13, [5, 6]), (14, []), (15, []), (16, []), (17, []), (18, []), (19, [])] (by decide +kernel) ?_; conv => whnf)
    | omega
    | (refine And.intro ?_ ?_; ((try dsimp only); first | omega | (refine ⟨by omega, by omega, Int.le_trans (Int.mul_le_mul_of_nonneg_right (Int.ofNat_le.2 (Nat.le_of_ble_eq_true (rfl : Nat.ble _ 1024 = true))) (by omega)) (by omega), by omega⟩) | (refine Nat.le_trans (Nat.mul_le_mul_left _ (Nat.le_of_ble_eq_true (rfl : Nat.ble _ 1024 = true))) ?_; omega) | (unfold inI64; omega) | (constructor <;> omega) | (simp only [inI64, List.length_cons, List.length_append, List.length_nil, List.length_set] at *; omega) | decide | (unfold inI64; decide)); conv => whnf)
    | omega | decide | assumption)
  all_goals first
    | (refine ⟨i + 1, ⟨by omega, first_step p2 (by clear p2 hbad hk hx; simp only [e1, em, cond_true, firstE] at *; unfold hirsE1 strLe; grind)⟩, by omega, (by refine Entails.mk' [] rfl rfl ?_ ?_ <;> repeat' (first | exact True.intro | exact SV.le_refl _ | exact Res.le_refl _ | exact SV.le_int (by omega) | exact SV.le_any _ | refine And.intro ?_ ?_))⟩)
    | (refine .ret _ ?_
       conv => whnf
       refine ⟨[], ⟨?_, rfl⟩, trivial⟩
       conv => lhs; whnf
       congr 2
       first
         | exact (hbad _ (by omega) (by clear p2 hbad hk hx; simp only [e1, em, cond_true, firstE] at *; grind) (by clear p2 hbad hk hx; simp only [e1, em, cond_true, firstE] at *; unfold hirsE1 strLe; grind)).symm
         | (have : i = l.length := by omega
            subst this
            unfold hirsE; rw [if_neg (by omega), firstAt_zero p2]))
-- HiresFault
set_option maxHeartbeats 2000000 in
theorem z81 (l : List Hir) (hk : hiOk l) : FSpec Tryz.prog 81 [.d (hirs l)] [] (fun x r => x = .d (.int .i64 (hirsE l)) ∧ r = []) := by
  refine spec_of hT (C := []) Tryz.func81 rfl Tryz.call81 rfl rfl rfl ?_
  conv => whnf
  refine br_intro (fun h0 => ?_) (fun h0 => ?_)
  · simp at h0
    conv => whnf
    refine .ret _ ?_
    conv => whnf
    refine ⟨[], ⟨?_, rfl⟩, trivial⟩
    conv => lhs; whnf
    unfold hirsE; rw [if_pos (by omega)]
  simp at h0
  conv => whnf
  refine LoopX.rule hT (C := []) (ι := Nat) (fun i => i ≤ l.length ∧ ∀ j, j < i → hirsE1 l j = 0) (fun i => mkSt [(3, .d (.str (if i = 0 then [] else (l.getD (i - 1) hi0).key))), (10, .d (hirs l)), (11, .d (.int .i64 l.length)), (12, .d (.int .i64 i))] []) (fun i => l.length - i) 0 ⟨by omega, by omega⟩ (by refine Entails.mk' [] rfl rfl ?_ ?_ <;> repeat' (first | exact True.intro | exact SV.le_refl _ | exact Res.le_refl _ | exact SV.le_int (by omega) | exact SV.le_any _ | refine And.intro ?_ ?_)) ?_
  rintro i ⟨p1, p2⟩
  have hx : (i : Int) < l.length → hiK (l.getD (i : Int).toNat hi0) := fun hi => hk.2 _ (getD_mem (by omega))
  have e1 : (i : Int).toNat = i := Int.toNat_natCast i
  have hkey : hirE (l.getD (i : Int).toNat hi0) = 0 → isKeyB (l.getD (i : Int).toNat hi0).key = true := fun h => by
    unfold hirE at h
    cases q : isKeyB (l.getD (i : Int).toNat hi0).key with
    | true => rfl
    | false => rw [if_pos (.inl q)] at h; cases h
  have hbad : ∀ e : Int, i < l.length → e ≠ 0 → hirsE1 l i = e → hirsE l = e := fun e h h1 h2 => by
    unfold hirsE; rw [if_neg (by omega)]
    exact firstAt_eq h p2 h1 h2
  conv => whnf
  repeat' (first
    | (refine CallX.pure (z183 (l.getD (i : Int).toNat hi0) (hx (by omega))) ⟨SV.le_refl _, trivial⟩ rfl ?_; conv => whnf)
    | (refine br_intro (fun hb => ?_) (fun hb => ?_) <;> (try simp only [decide_eq_true_eq, decide_eq_false_iff_not, Bool.not_eq_true', Bool.not_eq_false', Bool.and_eq_true, Bool.or_eq_true, beq_iff_eq, not_and, Int.not_le, Int.not_lt, Int.toNat_natCast, beq_eq_false_iff_ne, ne_eq, eq_self, not_true_eq_false, not_false_eq_true] at hb) <;> (conv => whnf))
    | omega
    | (refine And.intro ?_ ?_; ((try dsimp only); first | omega | (refine ⟨by omega, by omega, Int.le_trans (Int.mul_le_mul_of_nonneg_right (Int.ofNat_le.2 (Nat.le_of_ble_eq_true (rfl : Nat.ble _ 1024 = true))) (by omega)) (by omega), by omega⟩) | (refine Nat.le_trans (Nat.mul_le_mul_left _ (Nat.le_of_ble_eq_true (rfl : Nat.ble _ 1024 = true))) ?_; omega) | (unfold inI64; omega) | (constructor <;> omega) | (simp only [inI64, List.length_cons, List.length_append, List.length_nil, List.length_set] at *; omega) | decide | (unfold inI64; decide)); conv => whnf)
    | omega | decide | assumption)
  all_goals first
    | (refine ⟨i + 1, ⟨by omega, first_step p2 (by clear p2 hbad hk hx; simp only [e1, toNat_pred] at *; unfold hirsE1 strLe; grind)⟩, by omega, Entails.mk' [] rfl rfl ⟨(by rw [show (if i + 1 = 0 then ([] : List UInt8) else (l.getD (i + 1 - 1) hi0).key) = (l.getD (i : Int).toNat hi0).key from by rw [if_neg (by omega), e1, Nat.add_sub_cancel]]; exact SV.le_refl _), SV.le_refl _, SV.le_refl _, SV.le_refl _, trivial⟩ trivial⟩)
    | (refine .ret _ ?_
       conv => whnf
       refine ⟨[], ⟨?_, rfl⟩, trivial⟩
       conv => lhs; whnf
       congr 2
       first
         | exact (hbad _ (by omega) (by clear p2 hbad hk hx; simp only [e1, toNat_pred] at *; grind) (by clear p2 hbad hk hx; simp only [e1, toNat_pred] at *; unfold hirsE1 strLe; grind [isKey_nil, less_nil])).symm
         | (have : i = l.length := by omega
            subst this
            unfold hirsE; rw [if_neg (by omega), firstAt_zero p2]))
end Go.Proofs.YtnkdlkgannnfhaaGreatDoor
set_option maxRecDepth 20000
namespace Go.Proofs.YtnkdlkgannnfhaaGreatDoor
open Go Go.Eng
theorem Res.le_put2 {α : Type} {f : α → List DV} {d : α} {l : List α} {x y : α} {e k j1 j2 : Nat} {ds1 ds2 : List DV} (h1 : ∀ z, setAtD (f z) 0 ds1 = f x) (h2 : ∀ z, setAtD (f z) 0 ds2 = f y) :
    Res.le (.buf e k l.length fun i => bif Nat.beq i j2 then setAtD (bif Nat.beq i j1 then setAtD (rowF f d l i) 0 ds1 else rowF f d l i) 0 ds2 else bif Nat.beq i j1 then setAtD (rowF f d l i) 0 ds1 else rowF f d l i) (seqB e k f d ((l.set j1 x).set j2 y)) := by
  refine Res.le_buf (by simp) (fun k hk => ?_)
  have e1 := rows_putG (f := f) (d := d) (l := l) (x := x) (j := j1) (off := 0) (ds := ds1) (get := rowF f d l) (fun _ _ => rfl) (fun z _ => h1 z)
  have e2 := rows_putG (f := f) (d := d) (l := l.set j1 x) (x := y) (j := j2) (off := 0) (ds := ds2) (get := fun i => bif Nat.beq i j1 then setAtD (rowF f d l i) 0 ds1 else rowF f d l i) (fun k hk => e1 k (by simpa using hk)) (fun z _ => h2 z)
  exact e2 k (by simpa using hk)
def gSh (l : List Gate) : Prop := l.length = 3 ∧ ∀ g ∈ l, g.key.length ≤ 8 ∧ g.area.length ≤ 8
theorem mem_len' {l : List (List UInt8)} {u : List UInt8} (h : u ∈ l) (q : l.all (fun x => decide (x.length ≤ 8)) = true) : u.length ≤ 8 := mem_len h q
def gLit (u1 u2 : Int) : List Gate := [⟨[103, 49], [99, 105, 116, 121], u1⟩, ⟨[103, 50], [99, 105, 116, 121], 0⟩, ⟨[103, 51], [114, 105, 110, 103], u2⟩]
theorem gLit_sh (u1 u2 : Int) : gSh (gLit u1 u2) := ⟨rfl, by intro g hg; simp [gLit] at hg; rcases hg with rfl | rfl | rfl <;> simp⟩
theorem gSh_set {l : List Gate} {j : Nat} {x : Gate} (h : gSh l) (h1 : x.key.length ≤ 8) (h2 : x.area.length ≤ 8) : gSh (l.set j x) :=
  ⟨by rw [List.length_set]; exact h.1, fun y hy => by rcases List.mem_or_eq_of_mem_set hy with q | q; exact h.2 y q; subst q; exact ⟨h1, h2⟩⟩
theorem gLit_rows (u1 u2 : Int) : ∀ i, i < (gLit u1 u2).length → [[DV.str [103, 49], .str [99, 105, 116, 121], .int .i64 u1], [.str [103, 50], .str [99, 105, 116, 121], .int .i64 0], [.str [103, 51], .str [114, 105, 110, 103], .int .i64 u2]].getD i [] = rowF gF g0 (gLit u1 u2) i := rows_lit rfl
-- Gates
def sameP (l c : List Pas) : Prop := c.length = l.length ∧ ∀ x ∈ c, x ∈ l
theorem sameP_set {l c : List Pas} {j : Nat} {x : Pas} (h : sameP l c) (hx : x ∈ l) : sameP l (c.set j x) :=
  ⟨by rw [List.length_set]; exact h.1, fun y hy => by rcases List.mem_or_eq_of_mem_set hy with q | q; exact h.2 y q; subst q; exact hx⟩
-- insertion sort of passages: the same elements
-- stable sort of at most twenty passages
-- passages alike
def subP (l c : List Pas) : Prop := c.length ≤ l.length ∧ ∀ x ∈ c, x ∈ l
-- slices.CompactFunc of passages
end Go.Proofs.YtnkdlkgannnfhaaGreatDoor
set_option maxRecDepth 20000
namespace Go.Proofs.YtnkdlkgannnfhaaGreatDoor
open Go Go.Eng
def pOk1 (p : Pas) : Prop := p.gate.length ≤ 8 ∧ p.plate.length ≤ 8 ∧ (-2^40 ≤ p.tm ∧ p.tm ≤ 2^40) ∧ -2^40 ≤ p.cents ∧ p.cents ≤ 2^40
def pSh (l : List Pas) (k : Nat) : Prop := l.length ≤ k ∧ ∀ p ∈ l, pOk1 p
theorem pSh_snoc {l : List Pas} {k : Nat} {x : Pas} (h : pSh l k) (hx : pOk1 x) : pSh (l ++ [x]) (k + 1) := by
  refine ⟨by rw [List.length_append]; simpa using h.1, fun p hp => ?_⟩
  rcases List.mem_append.1 hp with q | q
  · exact h.2 p q
  · simp at q; subst q; exact hx
theorem pSh_put {l : List Pas} {k m : Nat} {i : Nat} {x : Pas} (h : pSh l k) (hm : k ≤ m) (hx : i < l.length → pOk1 x) : pSh (l.set i x) m := by
  refine ⟨by have := h.1; rw [List.length_set]; omega, fun p hp => ?_⟩
  by_cases hi : i < l.length
  · rcases List.mem_or_eq_of_mem_set hp with q | q
    · exact h.2 p q
    · subst q; exact hx hi
  · rw [List.set_eq_of_length_le (by omega)] at hp; exact h.2 p hp
theorem mem_bd {l : List Int} {u : Int} (h : u ∈ l) (q : l.all (fun x => decide (-2^40 ≤ x ∧ x ≤ 2^40)) = true) : -2^40 ≤ u ∧ u ≤ 2^40 := by
  have := List.all_eq_true.1 q u h
  exact of_decide_eq_true this
theorem SV.le_upd {α : Type} {f : α → List DV} {d : α} {l : List α} {k j off : Nat} {ds : List DV} (g : α → α) (hg : ∀ y, setAtD (f y) off ds = f (g y)) :
    SV.le (.d (.ro k l.length fun i => bif Nat.beq i j then setAtD (rowF f d l i) off ds else rowF f d l i)) (.d (seqD k f d (l.set j (g (l.getD j d))))) :=
  SV.le_putF fun y hy => by rw [hg, List.getD_eq_getElem?_getD, hy]; rfl
-- Passages
end Go.Proofs.YtnkdlkgannnfhaaGreatDoor
namespace Go.Proofs
open Go.Shelf
def Tryz.lays181_ren : Go.Shelf.Ren := ⟨fun | 4 => 181 | n => n, fun | 22 => 108 | 25 => 140 | 3 => 3 | 4 => 4 | 9 => 9 | 20 => 20 | 0 => 0 | n => n, fun | n => n⟩
end Go.Proofs

set_option maxRecDepth 20000
namespace Go.Proofs.YtnkdlkgannnfhaaGreatDoor
open Go Go.Eng Go.RowKit
-- slices.Grow of passages, from nil
end Go.Proofs.YtnkdlkgannnfhaaGreatDoor
set_option maxRecDepth 20000
namespace Go.Proofs.YtnkdlkgannnfhaaGreatDoor
open Go Go.Eng
theorem Res.le_appF {α : Type} {f : α → List DV} {d : α} {l m : List α} {e k : Nat} : Res.le (.buf e k (l.length + m.length) (appGet l.length (rowF f d l) (rowF f d m))) (seqB e k f d (l ++ m)) := by
  refine Res.le_buf (by simp) (fun i hi => ?_)
  by_cases h : i < l.length
  · rw [appGet_lt h]; simp only [rowF]; rw [List.getD_eq_getElem?_getD, List.getD_eq_getElem?_getD, List.getElem?_append_left h]
  · rw [appGet_ge (by omega)]; simp only [rowF]; rw [List.getD_eq_getElem?_getD, List.getD_eq_getElem?_getD, List.getElem?_append_right (by omega)]
def psF : List Pas → List DV := fun l => [pass l]
abbrev passs (l : List (List Pas)) : DV := seqD 1 psF [] l
def lens (l : List (List Pas)) : Nat := (l.map List.length).sum
theorem lens_take {l : List (List Pas)} {i : Nat} (h : i < l.length) : lens (l.take (i + 1)) = lens (l.take i) + (l.getD i []).length := by
  unfold lens; rw [take_snocD (d := []) h]; simp
theorem lens_le {l : List (List Pas)} {i : Nat} : lens (l.take i) ≤ lens l := by
  have h := congrArg lens (List.take_append_drop i l)
  have h2 : lens (l.take i ++ l.drop i) = lens (l.take i) + lens (l.drop i) := by unfold lens; rw [List.map_append, List.sum_append]
  omega
theorem flat_len (l : List (List Pas)) : l.flatten.length = lens l := by
  unfold lens; rw [List.length_flatten]
-- slices.Concat of passages
end Go.Proofs.YtnkdlkgannnfhaaGreatDoor
set_option maxRecDepth 20000
namespace Go.Proofs.YtnkdlkgannnfhaaGreatDoor
open Go Go.Eng
theorem swap_mid {A B : List Pas} {x y : Pas} {D b : List Pas} {j : Nat} (hb : (y :: A).reverse ++ [x] ++ B ++ D = b) (hj : j = A.length + 1) :
    b.getD j pa0 = x ∧ b.getD (j - 1) pa0 = y ∧ (b.set j y).set (j - 1) x = A.reverse ++ [x] ++ (y :: B) ++ D := by
  subst hj
  refine ⟨?_, ?_, ?_⟩
  · rw [← hb, show (y :: A).reverse ++ [x] ++ B ++ D = (y :: A).reverse ++ x :: (B ++ D) by simp]
    exact getD_mid _ _ _ _ (by simp)
  · rw [← hb, show (y :: A).reverse ++ [x] ++ B ++ D = A.reverse ++ y :: ([x] ++ B ++ D) by simp]
    exact getD_mid _ _ _ _ (by simp)
  · rw [← hb]
    have := swap_lemma A.reverse (B ++ D) x y
    simp only [List.length_reverse] at this
    simp only [List.reverse_cons, List.append_assoc, List.singleton_append, List.cons_append, List.nil_append, Nat.add_sub_cancel] at this ⊢
    exact this
-- insertion sort of passages, in full
-- stable sort of at most twenty passages
end Go.Proofs.YtnkdlkgannnfhaaGreatDoor
set_option maxRecDepth 20000
namespace Go.Proofs.YtnkdlkgannnfhaaGreatDoor
open Go Go.Eng
theorem pas_eq {a b : Pas} : a = b ↔ a.tm = b.tm ∧ a.gate = b.gate ∧ a.plate = b.plate ∧ a.cents = b.cents := by cases a; cases b; simp
instance : DecidableEq Pas := fun _ _ => decidable_of_iff _ pas_eq.symm
-- slices.Equal of passages
-- toll.True
end Go.Proofs.YtnkdlkgannnfhaaGreatDoor
set_option maxRecDepth 20000
namespace Go.Proofs.YtnkdlkgannnfhaaGreatDoor
open Go Go.Eng
/-- What is left of the first elements when neighbours alike are one. -/
def cptN (l : List Pas) : Nat → List Pas
  | 0 => []
  | i + 1 => cptN l i ++ if 0 < i ∧ l.getD i pa0 = l.getD (i - 1) pa0 then [] else [l.getD i pa0]
theorem cptN_len (l : List Pas) : ∀ i, (cptN l i).length ≤ i := by
  intro i
  induction i with
  | zero => simp [cptN]
  | succ i ih => rw [cptN, List.length_append]; split <;> simp <;> omega
-- slices.Compact of passages
end Go.Proofs.YtnkdlkgannnfhaaGreatDoor
set_option maxRecDepth 20000
namespace Go.Proofs.YtnkdlkgannnfhaaGreatDoor
open Go Go.Eng
def nbE (l : List Pas) (i : Nat) : Int := if 0 < i ∧ pasCmp (l.getD (i - 1) pa0) (l.getD i pa0) = 0 then 13 else 0
def mrgL (a b : List Pas) : List Pas := cptN (isort pasCmp (a ++ b)) (isort pasCmp (a ++ b)).length
def mrgE (a b : List Pas) : Int := if firstAt (nbE (mrgL a b)) (mrgL a b).length ≠ 0 then 13 else if 1000 < (mrgL a b).length then 2 else 0
theorem isort_mem {l : List Pas} {x : Pas} : x ∈ isort pasCmp l ↔ x ∈ l := by unfold isort; rw [List.mem_reverse, isortR_mem]
theorem isort_len {l : List Pas} : (isort pasCmp l).length = l.length := by unfold isort; rw [List.length_reverse, isortR_length]
theorem cptN_mem {l : List Pas} {x : Pas} : ∀ {i : Nat}, i ≤ l.length → x ∈ cptN l i → x ∈ l := by
  intro i
  induction i with
  | zero => intro _ h; simp [cptN] at h
  | succ i ih =>
    intro hi h
    rw [cptN] at h
    rcases List.mem_append.1 h with q | q
    · exact ih (by omega) q
    · split at q
      · simp at q
      · simp at q; subst q; exact getD_mem (by omega)
theorem mrg_mem {a b : List Pas} {x : Pas} (h : x ∈ mrgL a b) : x ∈ a ∨ x ∈ b := by
  have := cptN_mem (Nat.le_refl _) h
  rw [isort_mem] at this
  exact List.mem_append.1 this
theorem mrg_len (a b : List Pas) : (mrgL a b).length ≤ a.length + b.length := by
  have := cptN_len (isort pasCmp (a ++ b)) (isort pasCmp (a ++ b)).length
  rw [isort_len, List.length_append] at this
  unfold mrgL; rw [isort_len, List.length_append]; exact this
-- Q.PassagesOf
end Go.Proofs.YtnkdlkgannnfhaaGreatDoor
set_option maxRecDepth 20000
namespace Go.Proofs.YtnkdlkgannnfhaaGreatDoor
open Go Go.Eng
def mergeE (g : List Gate) (a b : List Pas) : Int := if firstE [chkE g a, chkE g b] ≠ 0 then firstE [chkE g a, chkE g b] else mrgE a b
theorem nb_zero (l : List Pas) : ∀ j, j < 1 → nbE l j = 0 := fun j hj => by
  have : j = 0 := by omega
  subst this; rfl
-- toll.Merge
end Go.Proofs.YtnkdlkgannnfhaaGreatDoor
set_option maxRecDepth 20000
namespace Go.Proofs.YtnkdlkgannnfhaaGreatDoor
open Go Go.Eng
theorem SV.le_drop {α : Type} {f : α → List DV} {d : α} {l : List α} {k j m : Nat} (hm : m = (l.drop j).length) : SV.le (.d (.ro k m fun i => rowF f d l (j + i))) (.d (seqD k f d (l.drop j))) :=
  SV.le_ro hm (fun i hi => by simp only [rowF]; rw [List.getD_eq_getElem?_getD, List.getD_eq_getElem?_getD, List.getElem?_drop])
theorem Res.le_upd {α : Type} {f : α → List DV} {d : α} {l : List α} {e k j off : Nat} {ds : List DV} (g : α → α) (hg : ∀ y, setAtD (f y) off ds = f (g y)) :
    Res.le (.buf e k l.length fun i => bif Nat.beq i j then setAtD (rowF f d l i) off ds else rowF f d l i) (seqB e k f d (l.set j (g (l.getD j d)))) :=
  Res.le_putF fun y hy => by rw [hg, List.getD_eq_getElem?_getD, hy]; rfl
-- slices.Clone of passages
end Go.Proofs.YtnkdlkgannnfhaaGreatDoor
set_option maxRecDepth 20000
namespace Go.Proofs.YtnkdlkgannnfhaaGreatDoor
open Go Go.Eng
def allK {α : Type} (K : α → Prop) (k : Nat) (l : List α) : Prop := l.length ≤ k ∧ ∀ x ∈ l, K x
theorem allK_snoc {α : Type} {K : α → Prop} {l : List α} {k m : Nat} {x : α} (h : allK K k l) (hm : k + 1 ≤ m) (hx : K x) : allK K m (l ++ [x]) := by
  refine ⟨by rw [List.length_append]; have := h.1; simp; omega, fun p hp => ?_⟩
  rcases List.mem_append.1 hp with q | q
  · exact h.2 p q
  · simp at q; subst q; exact hx
theorem allK_le {α : Type} {K : α → Prop} {l : List α} {k m : Nat} (h : allK K k l) (hm : k ≤ m) : allK K m l := ⟨by have := h.1; omega, h.2⟩
theorem allK_upd {α : Type} {K : α → Prop} {l : List α} {k j : Nat} {d : α} {g : α → α} (h : allK K k l) (hg : ∀ y, K y → K (g y)) : allK K k (l.set j (g (l.getD j d))) := by
  refine ⟨by rw [List.length_set]; exact h.1, fun p hp => ?_⟩
  by_cases hj : j < l.length
  · rcases List.mem_or_eq_of_mem_set hp with q | q
    · exact h.2 p q
    · subst q; exact hg _ (h.2 _ (getD_mem hj))
  · rw [List.set_eq_of_length_le (by omega)] at hp; exact h.2 p hp
theorem rows_updG {α : Type} {f : α → List DV} {d : α} {l : List α} {j off : Nat} {ds : List DV} {get : Nat → List DV} (hg : ∀ i, i < l.length → get i = rowF f d l i) (g : α → α) (h : ∀ y, setAtD (f y) off ds = f (g y)) :
    ∀ i, i < (l.set j (g (l.getD j d))).length → (bif Nat.beq i j then setAtD (get i) off ds else get i) = rowF f d (l.set j (g (l.getD j d))) i := by
  rw [List.length_set]
  exact rows_putG hg (fun y hy => by rw [h, List.getD_eq_getElem?_getD, hy]; rfl)
abbrev updL {α : Type} (l : List α) (j : Nat) (d : α) (g : α → α) : List α := l.set j (g (l.getD j d))
theorem SV.le_upd2 {α : Type} {f : α → List DV} {d : α} {l : List α} {k j1 j2 o1 o2 : Nat} {ds1 ds2 : List DV} (g1 g2 : α → α) (h1 : ∀ y, setAtD (f y) o1 ds1 = f (g1 y)) (h2 : ∀ y, setAtD (f y) o2 ds2 = f (g2 y)) :
    SV.le (.d (.ro k l.length fun i => bif Nat.beq i j2 then setAtD (bif Nat.beq i j1 then setAtD (rowF f d l i) o1 ds1 else rowF f d l i) o2 ds2 else (bif Nat.beq i j1 then setAtD (rowF f d l i) o1 ds1 else rowF f d l i)))
      (.d (seqD k f d (updL (updL l j1 d g1) j2 d g2))) :=
  SV.le_ro (by simp) (fun i hi => rows_updG (rows_updG (fun _ _ => rfl) g1 h1) g2 h2 i (by simpa using hi))
theorem SV.le_upd3 {α : Type} {f : α → List DV} {d : α} {l : List α} {k j1 j2 j3 o1 o2 o3 : Nat} {ds1 ds2 ds3 : List DV} (g1 g2 g3 : α → α) (h1 : ∀ y, setAtD (f y) o1 ds1 = f (g1 y)) (h2 : ∀ y, setAtD (f y) o2 ds2 = f (g2 y)) (h3 : ∀ y, setAtD (f y) o3 ds3 = f (g3 y)) :
    SV.le (.d (.ro k l.length fun i => bif Nat.beq i j3 then setAtD (bif Nat.beq i j2 then setAtD (bif Nat.beq i j1 then setAtD (rowF f d l i) o1 ds1 else rowF f d l i) o2 ds2 else (bif Nat.beq i j1 then setAtD (rowF f d l i) o1 ds1 else rowF f d l i)) o3 ds3
        else (bif Nat.beq i j2 then setAtD (bif Nat.beq i j1 then setAtD (rowF f d l i) o1 ds1 else rowF f d l i) o2 ds2 else (bif Nat.beq i j1 then setAtD (rowF f d l i) o1 ds1 else rowF f d l i))))
      (.d (seqD k f d (updL (updL (updL l j1 d g1) j2 d g2) j3 d g3))) :=
  SV.le_ro (by simp) (fun i hi => rows_updG (rows_updG (rows_updG (fun _ _ => rfl) g1 h1) g2 h2) g3 h3 i (by simpa using hi))
theorem rows_snocG {α : Type} {f : α → List DV} {d : α} {l : List α} {x : α} {n : Nat} {get h : Nat → List DV} (hn : n = l.length) (hg : ∀ i, i < l.length → get i = rowF f d l i) (hx : h 0 = f x) :
    ∀ i, i < (l ++ [x]).length → appGet n get h i = rowF f d (l ++ [x]) i := by
  intro i hi
  subst hn
  rw [← rows_snocF (f := f) (d := d) (l := l) (x := x) (h := h) hx i (by simpa using hi)]
  rcases Nat.lt_or_ge i l.length with q | q
  · rw [appGet_lt q, appGet_lt q, hg i q]
  · rw [appGet_ge q, appGet_ge q]
theorem SV.le_upd2_snoc {α : Type} {f : α → List DV} {d : α} {l : List α} {k j1 j2 o1 o2 : Nat} {ds1 ds2 : List DV} {h : Nat → List DV} (g1 g2 : α → α) (x : α) (h1 : ∀ y, setAtD (f y) o1 ds1 = f (g1 y)) (h2 : ∀ y, setAtD (f y) o2 ds2 = f (g2 y)) (hx : h 0 = f x) :
    SV.le (.d (.ro k (l.length + 1) (appGet l.length (fun i => bif Nat.beq i j2 then setAtD (bif Nat.beq i j1 then setAtD (rowF f d l i) o1 ds1 else rowF f d l i) o2 ds2 else (bif Nat.beq i j1 then setAtD (rowF f d l i) o1 ds1 else rowF f d l i)) h)))
      (.d (seqD k f d (updL (updL l j1 d g1) j2 d g2 ++ [x]))) :=
  SV.le_ro (by simp) (fun i hi => rows_snocG (l := updL (updL l j1 d g1) j2 d g2) (by simp) (rows_updG (rows_updG (fun _ _ => rfl) g1 h1) g2 h2) hx i (by simpa using hi))
def sameL {α : Type} (l c : List α) : Prop := c.length = l.length ∧ ∀ x ∈ c, x ∈ l
theorem sameL_set {α : Type} {l c : List α} {j : Nat} {x : α} (h : sameL l c) (hx : x ∈ l) : sameL l (c.set j x) :=
  ⟨by rw [List.length_set]; exact h.1, fun y hy => by rcases List.mem_or_eq_of_mem_set hy with q | q; exact h.2 y q; subst q; exact hx⟩
def subL {α : Type} (l c : List α) : Prop := c.length ≤ l.length ∧ ∀ x ∈ c, x ∈ l
end Go.Proofs.YtnkdlkgannnfhaaGreatDoor
set_option maxRecDepth 20000
namespace Go.Proofs.YtnkdlkgannnfhaaGreatDoor
open Go Go.Eng
theorem foldl_range_succ {β : Type} (f : β → Nat → β) (st : β) (k : Nat) : (List.range (k + 1)).foldl f st = f ((List.range k).foldl f st) k := by
  rw [List.range_succ, List.foldl_append]; rfl
theorem foldl_inv {α β : Type} {q : β → Prop} {f : β → α → β} : ∀ {l : List α} {st : β}, (∀ st x, x ∈ l → q st → q (f st x)) → q st → q (l.foldl f st) := by
  intro l
  induction l with
  | nil => intro st _ h; exact h
  | cons x l ih => intro st hf h; exact ih (fun st y hy => hf st y (List.mem_cons_of_mem _ hy)) (hf st x (List.mem_cons_self ..) h)
theorem foldl_filter' {α β : Type} (p : α → Bool) (f : β → α → β) : ∀ (l : List α) (st : β), (∀ st x, p x = false → f st x = st) → (l.filter p).foldl f st = l.foldl f st := by
  intro l
  induction l with
  | nil => intro st _; rfl
  | cons x l ih =>
    intro st h
    cases hp : p x
    · rw [List.filter_cons_of_neg (by simp [hp]), List.foldl_cons, h st x hp, ih st h]
    · rw [List.filter_cons_of_pos (by simp [hp]), List.foldl_cons, List.foldl_cons, ih _ h]
theorem SV.le_agg {l m : List SV} (h : argsLe0 l m) : SV.le (.agg l) (.agg m) := by
  obtain ⟨h1, h2⟩ := argsLe0_get h
  intro G β v hv
  cases hv with | agg _ vs hl hd =>
  refine .agg _ _ (hl.trans h1) (fun i y v hy hv => ?_)
  have hi : i < l.length := by rw [h1]; exact (List.getElem?_eq_some_iff.1 hy).1
  exact h2 i _ y (List.getElem?_eq_getElem hi) hy G β v (hd i _ v (List.getElem?_eq_getElem hi) hv)
theorem rows_app {α : Type} {f : α → List DV} {d : α} {l m : List α} {n : Nat} {g h : Nat → List DV} (hn : n = l.length) (hg : ∀ i, i < l.length → g i = rowF f d l i) (hh : ∀ i, i < m.length → h i = rowF f d m i) :
    ∀ i, i < (l ++ m).length → appGet n g h i = rowF f d (l ++ m) i := by
  intro i hi
  subst hn
  rw [List.length_append] at hi
  simp only [rowF]
  rcases Nat.lt_or_ge i l.length with q | q
  · rw [appGet_lt q, hg i q, List.getD_eq_getElem?_getD, List.getElem?_append_left q, ← List.getD_eq_getElem?_getD]; rfl
  · rw [appGet_ge q, hh _ (by omega), List.getD_eq_getElem?_getD, List.getElem?_append_right q, ← List.getD_eq_getElem?_getD]; rfl
theorem foldl_take {α β : Type} (f : β → α → β) (z : α) (l : List α) (st : β) {j : Nat} (h : j < l.length) : (l.take (j + 1)).foldl f st = f ((l.take j).foldl f st) (l.getD j z) := by
  rw [List.take_add_one, List.foldl_append, List.getD_eq_getElem?_getD, List.getElem?_eq_getElem h]; rfl
def toI (l : List Nat) : List Int := l.map Int.ofNat
theorem toI_len (l : List Nat) : (toI l).length = l.length := by simp [toI]
theorem toI_get {l : List Nat} {j : Nat} (h : j < l.length) : (toI l).getD j 0 = ((l.getD j 0 : Nat) : Int) := by
  simp [toI, List.getD_eq_getElem?_getD, h]
def rangeI (i d : Nat) : List Int := toI (List.range' i d)
theorem rangeI_len (i d : Nat) : (rangeI i d).length = d := by simp [rangeI, toI]
theorem rangeI_drop (i d : Nat) : (rangeI i (d + 1)).drop 1 = rangeI (i + 1) d := rfl
def cellsLe : List SV → List SV → Prop
  | [], [] => True
  | x :: l, y :: m => SV.le x y ∧ cellsLe l m
  | _, _ => False
theorem cellsLe_get : ∀ {l m : List SV}, cellsLe l m → l.length = m.length ∧ ∀ (i : Nat) x y, l[i]? = some x → m[i]? = some y → SV.le x y := by
  intro l
  induction l with
  | nil =>
    intro m h
    cases m with
    | nil => exact ⟨rfl, by simp⟩
    | cons y m => exact h.elim
  | cons x l ih =>
    intro m h
    cases m with
    | nil => exact h.elim
    | cons y m =>
      obtain ⟨h1, h2⟩ := h
      obtain ⟨i1, i2⟩ := ih h2
      refine ⟨by simp [i1], fun i a b ha hb => ?_⟩
      cases i with
      | zero => simp at ha hb; subst ha; subst hb; exact h1
      | succ i => exact i2 i a b (by simpa using ha) (by simpa using hb)
theorem Res.le_cellsL {e : TypeId} {l m : List SV} (h : cellsLe l m) : Res.le (.cells e l) (.cells e m) :=
  Res.le_cells (cellsLe_get h).1 (cellsLe_get h).2
theorem Res.le_cutF {α : Type} {f : α → List DV} {d : α} {l m : List α} {e k n : Nat} (hn : n = l.length) (h : ∀ i, i < l.length → m.getD i d = l.getD i d) : Res.le (.buf e k n (rowF f d m)) (seqB e k f d l) :=
  Res.le_buf hn (fun i hi => by simp only [rowF]; rw [h i (by omega)])
theorem getD_app_lt {α : Type} {l m : List α} {i : Nat} {z : α} (h : i < l.length) : (l ++ m).getD i z = l.getD i z := by
  rw [List.getD_eq_getElem?_getD, List.getD_eq_getElem?_getD, List.getElem?_append_left h]
end Go.Proofs.YtnkdlkgannnfhaaGreatDoor
set_option maxRecDepth 20000
namespace Go.Proofs.YtnkdlkgannnfhaaGreatDoor
open Go Go.Eng
def rgB (r : Rdg) : Prop := r.st.length ≤ 8
def lgBd (x : Leg) : Prop := x.veh.length ≤ 8 ∧ rgB x.out ∧ rgB x.inn
def hiB (k : Nat) (h : Hir) : Prop := h.key.length ≤ 8 ∧ h.drv.length ≤ 8 ∧ h.legs.length ≤ k ∧ ∀ x ∈ h.legs, lgBd x
theorem hiB_le {k m : Nat} {h : Hir} (q : hiB k h) (hk : k ≤ m) : hiB m h := ⟨q.1, q.2.1, by have := q.2.2.1; omega, q.2.2.2⟩
theorem hiB_K {k : Nat} {h : Hir} (q : hiB k h) (hk : k ≤ 1000) : hiK h := by
  obtain ⟨h1, h2, h3, h4⟩ := q
  refine ⟨by omega, by omega, by omega, fun x hx => ?_⟩
  obtain ⟨a, b, c⟩ := h4 x hx
  unfold rgB at b c
  exact ⟨by omega, by omega, by omega⟩
theorem hiB_0 {k : Nat} : hiB k hi0 := ⟨by simp [hi0], by simp [hi0], by simp [hi0], fun x hx => by cases hx⟩
abbrev rcell (r : Rdg) : Res := .cells 246 [.d (.int .i64 r.tm), .d (.str r.st), .d (.int .i64 r.meter), .d (.int .i64 r.fuel)]
abbrev vcell (v : List UInt8) : Res := .cells 9 [.d (.str v)]
abbrev hbuf (h : Hir) (d : Nat) : Res := .cells 179 [.d (.str h.key), .d (.str h.drv), .d (.int .i64 h.frm), .d (.int .i64 h.to), .buf d]
abbrev zcell : Res := .cells 179 [.d (.str []), .d (.str []), .d (.int .i64 0), .d (.int .i64 0), .d .nilsl]
abbrev lgBf (l : List Leg) : Res := seqB 248 9 lgF lg0 l
def rgN : Rdg := ⟨-1, [], 0, 0⟩
def setIn (l : List Leg) (r : Rdg) : List Leg := l.set ((l.length : Int) - 1).toNat { l.getD ((l.length : Int) - 1).toNat lg0 with inn := r }
theorem setIn_len (l : List Leg) (r : Rdg) : (setIn l r).length = l.length := by simp [setIn]
theorem setIn_B {l : List Leg} {r : Rdg} (h : ∀ x ∈ l, lgBd x) (hr : rgB r) : ∀ x ∈ setIn l r, lgBd x := fun x hx => by
  unfold setIn at hx
  rcases List.mem_or_eq_of_mem_set hx with q | q
  · exact h x q
  · subst q
    by_cases e : ((l.length : Int) - 1).toNat < l.length
    · have := h _ (getD_mem (x := lg0) e)
      exact ⟨this.1, this.2.1, hr⟩
    · have : l.getD ((l.length : Int) - 1).toNat lg0 = lg0 := by rw [List.getD_eq_getElem?_getD, List.getElem?_eq_none (by omega)]; rfl
      rw [this]
      exact ⟨by simp [lg0], by simp [lg0, rgB, rg0], hr⟩
theorem Res.le_put_snocF {α : Type} {f : α → List DV} {d x y : α} {l : List α} {e k j off : Nat} {ds : List DV} {h : Nat → List DV} (hj : ∀ z, l[j]? = some z → setAtD (f z) off ds = f x) (hx : h 0 = f y) :
    Res.le (.buf e k (l.length + 1) (appGet l.length (fun i => bif Nat.beq i j then setAtD (rowF f d l i) off ds else rowF f d l i) h)) (seqB e k f d (l.set j x ++ [y])) := by
  refine Res.le_buf (by simp) (fun i hi => ?_)
  have h1 := rows_putF (f := f) (d := d) (l := l) (x := x) (j := j) (off := off) (ds := ds) hj
  rcases Nat.lt_or_ge i l.length with q | q
  · rw [appGet_lt q, h1 i q]
    simp only [rowF]
    rw [getD_app_lt (by simpa using q)]
  · have : i = l.length := by omega
    subst this
    rw [appGet_ge (Nat.le_refl _), Nat.sub_self, hx]
    simp only [rowF]
    congr 1
    rw [List.getD_eq_getElem?_getD, List.getElem?_append_right (by simp)]
    simp
theorem setIn_put {l : List Leg} {r : Rdg} : ∀ z, l[((l.length : Int) - 1).toNat]? = some z → setAtD (lgF z) 5 [.int .i64 r.tm, .str r.st, .int .i64 r.meter, .int .i64 r.fuel] = lgF { l.getD ((l.length : Int) - 1).toNat lg0 with inn := r } := fun z hz => by
  rw [List.getD_eq_getElem?_getD, hz]; rfl
-- Reading
theorem sRdg (n : Nat) (L : Nat → Int) (hL : Rok n L) (a : Int) (h0 : 0 ≤ a) (ha : a ≤ 2^38) (t : Int) (h1 : -2^41 ≤ t) (h2 : t ≤ 2^41) :
    FSpec Tryz.prog 213 [.ptr 1000000 0, .d (.int .i64 t)] [(1000000, strm n L a)] (fun y r => (∃ x : Rdg, rgB x ∧ y = .agg ((rgF x).map .d)) ∧ Moved n L a 12 r) := by
  refine spec_of hT (C := []) Tryz.func213 rfl Tryz.call213 rfl rfl rfl ?_
  conv => whnf
  repeat' (first
    | (refine CallX.of (s15 n L hL _ ?_ ?_ [[115, 49], [115, 49], [115, 50], [115, 51]] (by simp) (by simp)) [(1000000, 1000000)] rfl ⟨SV.le_refl _, SV.le_lit rfl rfl, trivial⟩ ⟨Res.le_refl _, trivial⟩ rfl rfl ?_; rotate_right; rintro x rout ⟨⟨u1, hu1, rfl⟩, ⟨c, c1, c2, rfl⟩⟩; have hw1 := mem_len hu1 rfl; refine ⟨rfl, ?_⟩; conv => whnf)
    | (refine CallX.of (s33 n L hL _ ?_ ?_ [0, 5, 100, 500, 999990, 999999] ?_ ?_) [(1000000, 1000000)] rfl ⟨SV.le_refl _, SV.le_lit rfl rfl, trivial⟩ ⟨Res.le_refl _, trivial⟩ rfl rfl ?_; rotate_right; rintro x rout ⟨⟨u2, hu2, rfl⟩, ⟨c, c1, c2, rfl⟩⟩; refine ⟨rfl, ?_⟩; conv => whnf)
    | (refine CallX.of (s64 n L hL _ ?_ ?_ 0 8 ?_ ?_ ?_ ?_) [(1000000, 1000000)] rfl ⟨SV.le_refl _, SV.le_refl _, SV.le_refl _, trivial⟩ ⟨Res.le_refl _, trivial⟩ rfl rfl ?_; rotate_right; rintro x rout ⟨⟨u3, hu3, hu3', rfl⟩, ⟨c, c1, c2, rfl⟩⟩; refine ⟨rfl, ?_⟩; conv => whnf)
    | (refine CallX.of (s84 n L hL _ ?_ ?_ _ ?_) [(1000000, 1000000)] rfl ⟨SV.le_refl _, SV.le_refl _, trivial⟩ ⟨Res.le_refl _, trivial⟩ rfl rfl ?_; rotate_right; rintro x rout ⟨⟨f, rfl⟩, ⟨c, c1, c2, rfl⟩⟩; refine ⟨rfl, ?_⟩; conv => whnf)
    | (refine CallX.of (s33 n L hL _ ?_ ?_ [t, t + 1, -1, 5761440] (by simp) (by simp)) [(1000000, 1000000)] rfl ⟨SV.le_refl _, SV.le_lit rfl rfl, trivial⟩ ⟨Res.le_refl _, trivial⟩ rfl rfl ?_; rotate_right; rintro x rout ⟨⟨u4, hu4, rfl⟩, ⟨c, c1, c2, rfl⟩⟩; refine ⟨rfl, ?_⟩; conv => whnf)
    | (refine CallX.of (s15 n L hL _ ?_ ?_ [[115, 49], [], [65]] (by simp) (by simp)) [(1000000, 1000000)] rfl ⟨SV.le_refl _, SV.le_lit rfl rfl, trivial⟩ ⟨Res.le_refl _, trivial⟩ rfl rfl ?_; rotate_right; rintro x rout ⟨⟨u5, hu5, rfl⟩, ⟨c, c1, c2, rfl⟩⟩; have hw1 := mem_len hu5 rfl; refine ⟨rfl, ?_⟩; conv => whnf)
    | (refine CallX.of (s104 n L hL _ ?_ ?_ 0 999999 ?_ ?_ ?_) [(1000000, 1000000)] rfl ⟨SV.le_refl _, SV.le_refl _, SV.le_refl _, trivial⟩ ⟨Res.le_refl _, trivial⟩ rfl rfl ?_; rotate_right; rintro x rout ⟨⟨u6, h6, h6', rfl⟩, ⟨c, c1, c2, rfl⟩⟩; refine ⟨rfl, ?_⟩; conv => whnf)
    | (refine CallX.of (s104 n L hL _ ?_ ?_ 0 8 ?_ ?_ ?_) [(1000000, 1000000)] rfl ⟨SV.le_refl _, SV.le_refl _, SV.le_refl _, trivial⟩ ⟨Res.le_refl _, trivial⟩ rfl rfl ?_; rotate_right; rintro x rout ⟨⟨u7, h7, h7', rfl⟩, ⟨c, c1, c2, rfl⟩⟩; refine ⟨rfl, ?_⟩; conv => whnf)
    | (refine br_intro (fun hb => ?_) (fun hb => ?_) <;> (try simp only [decide_eq_true_eq, decide_eq_false_iff_not, Bool.not_eq_true', Bool.not_eq_false', Bool.and_eq_true, Bool.or_eq_true, beq_iff_eq, not_and, Int.not_le, Int.not_lt, Int.toNat_natCast, beq_eq_false_iff_ne, ne_eq, eq_self, not_true_eq_false, not_false_eq_true] at hb) <;> (conv => whnf))
    | omega
    | (refine And.intro ?_ ?_; ((try dsimp only); first | omega | (refine ⟨by omega, by omega, Int.le_trans (Int.mul_le_mul_of_nonneg_right (Int.ofNat_le.2 (Nat.le_of_ble_eq_true (rfl : Nat.ble _ 1024 = true))) (by omega)) (by omega), by omega⟩) | (refine Nat.le_trans (Nat.mul_le_mul_left _ (Nat.le_of_ble_eq_true (rfl : Nat.ble _ 1024 = true))) ?_; omega) | (unfold inI64; omega) | (constructor <;> omega) | (simp only [inI64, List.length_cons, List.length_append, List.length_nil, List.length_set] at *; omega) | decide | (unfold inI64; decide)); conv => whnf)
    | omega | decide | assumption)
  all_goals
    refine .ret _ ?_
    conv => whnf
    exact ⟨[(1000000, strm n L _)], ⟨⟨⟨_, _, _, _⟩, hw1, rfl⟩, _, by omega, by omega, rfl⟩, Res.le_refl _, trivial⟩
-- Window
theorem sWin (n : Nat) (L : Nat → Int) (hL : Rok n L) (a : Int) (h0 : 0 ≤ a) (ha : a ≤ 2^38) :
    FSpec Tryz.prog 34 [.ptr 1000000 0] [(1000000, strm n L a)] (fun y r => (∃ u v : Int, y = .agg [.d (.int .i64 u), .d (.int .i64 v)]) ∧ Moved n L a 12 r) := by
  refine spec_of hT (C := []) Tryz.func34 rfl Tryz.call34 rfl rfl rfl ?_
  conv => whnf
  repeat' (first
    | (refine CallX.of (s33 n L hL _ ?_ ?_ [0, 0, 10, 100, 400, 1440, 5000, 10080] ?_ ?_) [(1000000, 1000000)] rfl ⟨SV.le_refl _, SV.le_lit rfl rfl, trivial⟩ ⟨Res.le_refl _, trivial⟩ rfl rfl ?_; rotate_right; rintro x rout ⟨⟨u1, hu1, rfl⟩, ⟨c, c1, c2, rfl⟩⟩; refine ⟨rfl, ?_⟩; conv => whnf)
    | (refine CallX.of (s33 n L hL _ ?_ ?_ [0, 10, 100, 400, 1000, 10080, 30000, 5761440] ?_ ?_) [(1000000, 1000000)] rfl ⟨SV.le_refl _, SV.le_lit rfl rfl, trivial⟩ ⟨Res.le_refl _, trivial⟩ rfl rfl ?_; rotate_right; rintro x rout ⟨⟨u2, hu2, rfl⟩, ⟨c, c1, c2, rfl⟩⟩; refine ⟨rfl, ?_⟩; conv => whnf)
    | (refine CallX.of (s84 n L hL _ ?_ ?_ _ ?_) [(1000000, 1000000)] rfl ⟨SV.le_refl _, SV.le_refl _, trivial⟩ ⟨Res.le_refl _, trivial⟩ rfl rfl ?_; rotate_right; rintro x rout ⟨⟨f, rfl⟩, ⟨c, c1, c2, rfl⟩⟩; refine ⟨rfl, ?_⟩; conv => whnf)
    | (refine CallX.of (s104 n L hL _ ?_ ?_ 0 100 ?_ ?_ ?_) [(1000000, 1000000)] rfl ⟨SV.le_refl _, SV.le_refl _, SV.le_refl _, trivial⟩ ⟨Res.le_refl _, trivial⟩ rfl rfl ?_; rotate_right; rintro x rout ⟨⟨u3, h3, h3', rfl⟩, ⟨c, c1, c2, rfl⟩⟩; refine ⟨rfl, ?_⟩; conv => whnf)
    | (refine CallX.of (s104 n L hL _ ?_ ?_ 100 5761440 ?_ ?_ ?_) [(1000000, 1000000)] rfl ⟨SV.le_refl _, SV.le_refl _, SV.le_refl _, trivial⟩ ⟨Res.le_refl _, trivial⟩ rfl rfl ?_; rotate_right; rintro x rout ⟨⟨u4, h4, h4', rfl⟩, ⟨c, c1, c2, rfl⟩⟩; refine ⟨rfl, ?_⟩; conv => whnf)
    | (refine br_intro (fun hb => ?_) (fun hb => ?_) <;> (try simp only [decide_eq_true_eq, decide_eq_false_iff_not, Bool.not_eq_true', Bool.not_eq_false', Bool.and_eq_true, Bool.or_eq_true, beq_iff_eq, not_and, Int.not_le, Int.not_lt, Int.toNat_natCast, beq_eq_false_iff_ne, ne_eq, eq_self, not_true_eq_false, not_false_eq_true] at hb) <;> (conv => whnf))
    | omega
    | (refine And.intro ?_ ?_; ((try dsimp only); first | omega | (refine ⟨by omega, by omega, Int.le_trans (Int.mul_le_mul_of_nonneg_right (Int.ofNat_le.2 (Nat.le_of_ble_eq_true (rfl : Nat.ble _ 1024 = true))) (by omega)) (by omega), by omega⟩) | (refine Nat.le_trans (Nat.mul_le_mul_left _ (Nat.le_of_ble_eq_true (rfl : Nat.ble _ 1024 = true))) ?_; omega) | (unfold inI64; omega) | (constructor <;> omega) | (simp only [inI64, List.length_cons, List.length_append, List.length_nil, List.length_set] at *; omega) | decide | (unfold inI64; decide)); conv => whnf)
    | omega | decide | assumption)
  all_goals
    refine .ret _ ?_
    conv => whnf
    exact ⟨[(1000000, strm n L _)], ⟨⟨_, _, rfl⟩, _, by omega, by omega, rfl⟩, Res.le_refl _, trivial⟩
theorem pkB {l : List Int} {x : Int} (h : x ∈ l) (hl : (l.all fun y => decide (0 ≤ y) && decide (y ≤ 100000)) = true) : 0 ≤ x ∧ x ≤ 100000 := by
  have := List.all_eq_true.1 hl x h
  simpa using this
-- Time
theorem sTim (n : Nat) (L : Nat → Int) (hL : Rok n L) (a : Int) (h0 : 0 ≤ a) (ha : a ≤ 2^38) :
    FSpec Tryz.prog 217 [.ptr 1000000 0] [(1000000, strm n L a)] (fun y r => (∃ u v : Int, y = .agg [.d (.int .i64 u), .d (.int .i64 v)]) ∧ Moved n L a 12 r) := by
  refine spec_of hT (C := []) Tryz.func217 rfl Tryz.call217 rfl rfl rfl ?_
  conv => whnf
  repeat' (first
    | (refine CallX.of (s33 n L hL _ ?_ ?_ [0, 0, 700, 5040, 5700, 6480, 6500, 8000, 10079, 20000] ?_ ?_) [(1000000, 1000000)] rfl ⟨SV.le_refl _, SV.le_lit rfl rfl, trivial⟩ ⟨Res.le_refl _, trivial⟩ rfl rfl ?_; rotate_right; rintro x rout ⟨⟨u1, hu1, rfl⟩, ⟨c, c1, c2, rfl⟩⟩; have hw1 := pkB hu1 (by decide); refine ⟨rfl, ?_⟩; conv => whnf)
    | (refine CallX.of (s33 n L hL _ ?_ ?_ [1, 59, 60, 61, 300, 1440, 1441, 1500, 2880, 4320, 5850, 7200, 8641, 10080, 11520, 14800, 21600] ?_ ?_) [(1000000, 1000000)] rfl ⟨SV.le_refl _, SV.le_lit rfl rfl, trivial⟩ ⟨Res.le_refl _, trivial⟩ rfl rfl ?_; rotate_right; rintro x rout ⟨⟨u2, hu2, rfl⟩, ⟨c, c1, c2, rfl⟩⟩; have hw2 := pkB hu2 (by decide); refine ⟨rfl, ?_⟩; conv => whnf)
    | (refine CallX.of (s84 n L hL _ ?_ ?_ _ ?_) [(1000000, 1000000)] rfl ⟨SV.le_refl _, SV.le_refl _, trivial⟩ ⟨Res.le_refl _, trivial⟩ rfl rfl ?_; rotate_right; rintro x rout ⟨⟨f, rfl⟩, ⟨c, c1, c2, rfl⟩⟩; refine ⟨rfl, ?_⟩; conv => whnf)
    | (refine CallX.of (s104 n L hL _ ?_ ?_ 0 1000 ?_ ?_ ?_) [(1000000, 1000000)] rfl ⟨SV.le_refl _, SV.le_refl _, SV.le_refl _, trivial⟩ ⟨Res.le_refl _, trivial⟩ rfl rfl ?_; rotate_right; rintro x rout ⟨⟨u3, h3, h3', rfl⟩, ⟨c, c1, c2, rfl⟩⟩; refine ⟨rfl, ?_⟩; conv => whnf)
    | (refine CallX.of (s33 n L hL _ ?_ ?_ [0, 1000, 5761439, 5761440, 172800, 173801] ?_ ?_) [(1000000, 1000000)] rfl ⟨SV.le_refl _, SV.le_lit rfl rfl, trivial⟩ ⟨Res.le_refl _, trivial⟩ rfl rfl ?_; rotate_right; rintro x rout ⟨⟨u4, hu4, rfl⟩, ⟨c, c1, c2, rfl⟩⟩; refine ⟨rfl, ?_⟩; conv => whnf)
    | (refine br_intro (fun hb => ?_) (fun hb => ?_) <;> (try simp only [decide_eq_true_eq, decide_eq_false_iff_not, Bool.not_eq_true', Bool.not_eq_false', Bool.and_eq_true, Bool.or_eq_true, beq_iff_eq, not_and, Int.not_le, Int.not_lt, Int.toNat_natCast, beq_eq_false_iff_ne, ne_eq, eq_self, not_true_eq_false, not_false_eq_true] at hb) <;> (conv => whnf))
    | omega
    | (refine And.intro ?_ ?_; ((try dsimp only); first | omega | (refine ⟨by omega, by omega, Int.le_trans (Int.mul_le_mul_of_nonneg_right (Int.ofNat_le.2 (Nat.le_of_ble_eq_true (rfl : Nat.ble _ 1024 = true))) (by omega)) (by omega), by omega⟩) | (refine Nat.le_trans (Nat.mul_le_mul_left _ (Nat.le_of_ble_eq_true (rfl : Nat.ble _ 1024 = true))) ?_; omega) | (unfold inI64; omega) | (constructor <;> omega) | (simp only [inI64, List.length_cons, List.length_append, List.length_nil, List.length_set] at *; omega) | decide | (unfold inI64; decide)); conv => whnf)
    | omega | decide | assumption)
  all_goals
    refine .ret _ ?_
    conv => whnf
    exact ⟨[(1000000, strm n L _)], ⟨⟨_, _, rfl⟩, _, by omega, by omega, rfl⟩, Res.le_refl _, trivial⟩
-- made
theorem z265 (h : Hir) (hk : hiK h) : FSpec Tryz.prog 265 [.agg ((hiF h).map .d)] [] (fun y r => y = .tup [.agg ((hiF (if hirE h = 0 then h else hi0)).map .d), .d (.int .i64 (hirE h))] ∧ r = []) := by
  have h183 := z183 h hk
  by_cases q : hirE h = 0
  · rw [if_pos q]
    rw [q] at h183 ⊢
    refine spec_of hT (C := []) Tryz.func265 rfl Tryz.call265 rfl rfl rfl ?_
    conv => whnf
    repeat' (first
      | (refine CallX.exact (h183) rfl rfl ?_; rotate_right; conv => whnf)
      | (refine br_intro (fun hb => ?_) (fun hb => ?_) <;> (try simp only [decide_eq_true_eq, decide_eq_false_iff_not, Bool.not_eq_true', Bool.not_eq_false', Bool.and_eq_true, Bool.or_eq_true, beq_iff_eq, not_and, Int.not_le, Int.not_lt, Int.toNat_natCast, beq_eq_false_iff_ne, ne_eq, eq_self, not_true_eq_false, not_false_eq_true] at hb) <;> (conv => whnf))
      | omega
      | (refine And.intro ?_ ?_; ((try dsimp only); first | omega | (refine ⟨by omega, by omega, Int.le_trans (Int.mul_le_mul_of_nonneg_right (Int.ofNat_le.2 (Nat.le_of_ble_eq_true (rfl : Nat.ble _ 1024 = true))) (by omega)) (by omega), by omega⟩) | (refine Nat.le_trans (Nat.mul_le_mul_left _ (Nat.le_of_ble_eq_true (rfl : Nat.ble _ 1024 = true))) ?_; omega) | (unfold inI64; omega) | (constructor <;> omega) | (simp only [inI64, List.length_cons, List.length_append, List.length_nil, List.length_set] at *; omega) | decide | (unfold inI64; decide)); conv => whnf)
      | omega | decide | assumption)
    refine .ret _ ?_
    conv => whnf
    exact ⟨[], ⟨rfl, rfl⟩, trivial⟩
  · rw [if_neg q]
    generalize hirE h = E at h183 q
    refine spec_of hT (C := []) Tryz.func265 rfl Tryz.call265 rfl rfl rfl ?_
    conv => whnf
    repeat' (first
      | (refine CallX.exact (h183) rfl rfl ?_; rotate_right; conv => whnf)
      | (refine br_intro (fun hb => ?_) (fun hb => ?_) <;> (try simp only [decide_eq_true_eq, decide_eq_false_iff_not, Bool.not_eq_true', Bool.not_eq_false', Bool.and_eq_true, Bool.or_eq_true, beq_iff_eq, not_and, Int.not_le, Int.not_lt, Int.toNat_natCast, beq_eq_false_iff_ne, ne_eq, eq_self, not_true_eq_false, not_false_eq_true] at hb) <;> (conv => whnf))
      | omega
      | (refine And.intro ?_ ?_; ((try dsimp only); first | omega | (refine ⟨by omega, by omega, Int.le_trans (Int.mul_le_mul_of_nonneg_right (Int.ofNat_le.2 (Nat.le_of_ble_eq_true (rfl : Nat.ble _ 1024 = true))) (by omega)) (by omega), by omega⟩) | (refine Nat.le_trans (Nat.mul_le_mul_left _ (Nat.le_of_ble_eq_true (rfl : Nat.ble _ 1024 = true))) ?_; omega) | (unfold inI64; omega) | (constructor <;> omega) | (simp only [inI64, List.length_cons, List.length_append, List.length_nil, List.length_set] at *; omega) | decide | (unfold inI64; decide)); conv => whnf)
      | omega | decide | assumption)
    all_goals first
      | (exfalso; omega)
      | (refine .weak _ ?_
         conv => whnf
         exact ⟨.tup [.agg ((hiF hi0).map .d), .d (.int .i64 E)], [], SV.le_tup ⟨SV.le_agg ⟨SV.le_refl _, SV.le_refl _, SV.le_refl _, SV.le_refl _, SV.le_nilS, trivial⟩, SV.le_refl _, trivial⟩, ⟨rfl, rfl⟩, trivial⟩)
-- IsOpen
theorem z313 (h : Hir) (hl : h.legs.length ≤ 2^40) : FSpec Tryz.prog 313 [.agg ((hiF h).map .d)] [] (fun y r => (∃ b : Bool, (b = true → 1 ≤ h.legs.length) ∧ y = .d (.bool b)) ∧ r = []) := by
  refine spec_of hT (C := []) Tryz.func313 rfl Tryz.call313 rfl rfl rfl ?_
  conv => whnf
  repeat' (first
    | (refine br_intro (fun hb => ?_) (fun hb => ?_) <;> (try simp only [decide_eq_true_eq, decide_eq_false_iff_not, Bool.not_eq_true', Bool.not_eq_false', Bool.and_eq_true, Bool.or_eq_true, beq_iff_eq, not_and, Int.not_le, Int.not_lt, Int.toNat_natCast, beq_eq_false_iff_ne, ne_eq, eq_self, not_true_eq_false, not_false_eq_true] at hb) <;> (conv => whnf))
    | omega
    | (refine And.intro ?_ ?_; ((try dsimp only); first | omega | (refine ⟨by omega, by omega, Int.le_trans (Int.mul_le_mul_of_nonneg_right (Int.ofNat_le.2 (Nat.le_of_ble_eq_true (rfl : Nat.ble _ 1024 = true))) (by omega)) (by omega), by omega⟩) | (refine Nat.le_trans (Nat.mul_le_mul_left _ (Nat.le_of_ble_eq_true (rfl : Nat.ble _ 1024 = true))) ?_; omega) | (unfold inI64; omega) | (constructor <;> omega) | (simp only [inI64, List.length_cons, List.length_append, List.length_nil, List.length_set] at *; omega) | decide | (unfold inI64; decide)); conv => whnf)
    | omega | decide | assumption)
  all_goals
    refine .ret _ ?_
    conv => whnf
    exact ⟨[], ⟨⟨_, fun q => (by first | omega | cases q), rfl⟩, rfl⟩, trivial⟩
-- Clone of legs
theorem z216 (l : List Leg) (h1 : 1 ≤ l.length) (hl : l.length ≤ 2^20) : FSpec Tryz.prog 216 [.d (legs l)] [] (fun y r => y = .buf 7 ∧ r = [(7, lgBf l)]) := by
  refine spec_of hT (C := [5]) Tryz.func216 rfl Tryz.call216 rfl rfl rfl ?_
  conv => whnf
  rintro b hbn
  conv => whnf
  repeat' (first
    | (refine br_intro (fun hb => ?_) (fun hb => ?_) <;> (try simp only [decide_eq_true_eq, decide_eq_false_iff_not, Bool.not_eq_true', Bool.not_eq_false', Bool.and_eq_true, Bool.or_eq_true, beq_iff_eq, not_and, Int.not_le, Int.not_lt, Int.toNat_natCast, beq_eq_false_iff_ne, ne_eq, eq_self, not_true_eq_false, not_false_eq_true] at hb) <;> (conv => whnf))
    | omega
    | (refine And.intro ?_ ?_; ((try dsimp only); first | omega | (refine ⟨by omega, by omega, Int.le_trans (Int.mul_le_mul_of_nonneg_right (Int.ofNat_le.2 (Nat.le_of_ble_eq_true (rfl : Nat.ble _ 1024 = true))) (by omega)) (by omega), by omega⟩) | (refine Nat.le_trans (Nat.mul_le_mul_left _ (Nat.le_of_ble_eq_true (rfl : Nat.ble _ 1024 = true))) ?_; omega) | (unfold inI64; omega) | (constructor <;> omega) | (simp only [inI64, List.length_cons, List.length_append, List.length_nil, List.length_set] at *; omega) | decide | (unfold inI64; decide)); conv => whnf)
    | omega | decide | assumption)
  · exfalso
    have := hbn (by assumption)
    omega
  · refine .ret _ ?_
    conv => whnf
    refine ⟨_, ⟨rfl, rfl⟩, Res.le_buf (by simp) (fun i hi => ?_), trivial⟩
    rw [appGet_ge (by omega)]; rfl
-- StartOf
def startH (key drv : List UInt8) (a b : Int) (v : List UInt8) (o : Rdg) : Hir := ⟨key, drv, a, b, [⟨v, o, rgN⟩]⟩
theorem startH_B {key drv : List UInt8} {a b : Int} {v : List UInt8} {o : Rdg} (h1 : key.length ≤ 8) (h2 : drv.length ≤ 8) (h3 : v.length ≤ 8) (h4 : rgB o) : hiB 1 (startH key drv a b v o) :=
  ⟨h1, h2, by simp [startH], fun x hx => by simp [startH] at hx; subst hx; exact ⟨h3, h4, by simp [rgB, rgN]⟩⟩
theorem z212 (key drv : List UInt8) (a b : Int) (v : List UInt8) (o : Rdg) (h1 : key.length ≤ 8) (h2 : drv.length ≤ 8) (h3 : v.length ≤ 8) (h4 : rgB o) :
    FSpec Tryz.prog 212 [.d (.str key), .d (.str drv), .agg [.d (.int .i64 a), .d (.int .i64 b)], .d (.str v), .agg ((rgF o).map .d)] [] (fun y r => y = .tup [.agg ((hiF (if hirE (startH key drv a b v o) = 0 then startH key drv a b v o else hi0)).map .d), .d (.int .i64 (hirE (startH key drv a b v o)))] ∧ r = []) := by
  have h265 := z265 (startH key drv a b v o) (hiB_K (startH_B h1 h2 h3 h4) (by omega))
  generalize hirE (startH key drv a b v o) = E at h265 ⊢
  generalize hH : (if E = 0 then startH key drv a b v o else hi0) = H at h265 ⊢
  refine spec_of hT (C := []) Tryz.func212 rfl Tryz.call212 rfl rfl rfl ?_
  conv => whnf
  repeat' (first
    | (refine CallX.pure h265 ⟨SV.le_agg ⟨SV.le_refl _, SV.le_refl _, SV.le_refl _, SV.le_refl _, SV.le_lit rfl rfl, trivial⟩, trivial⟩ rfl ?_; conv => whnf)
    | (refine br_intro (fun hb => ?_) (fun hb => ?_) <;> (try simp only [decide_eq_true_eq, decide_eq_false_iff_not, Bool.not_eq_true', Bool.not_eq_false', Bool.and_eq_true, Bool.or_eq_true, beq_iff_eq, not_and, Int.not_le, Int.not_lt, Int.toNat_natCast, beq_eq_false_iff_ne, ne_eq, eq_self, not_true_eq_false, not_false_eq_true] at hb) <;> (conv => whnf))
    | omega
    | (refine And.intro ?_ ?_; ((try dsimp only); first | omega | (refine ⟨by omega, by omega, Int.le_trans (Int.mul_le_mul_of_nonneg_right (Int.ofNat_le.2 (Nat.le_of_ble_eq_true (rfl : Nat.ble _ 1024 = true))) (by omega)) (by omega), by omega⟩) | (refine Nat.le_trans (Nat.mul_le_mul_left _ (Nat.le_of_ble_eq_true (rfl : Nat.ble _ 1024 = true))) ?_; omega) | (unfold inI64; omega) | (constructor <;> omega) | (simp only [inI64, List.length_cons, List.length_append, List.length_nil, List.length_set] at *; omega) | decide | (unfold inI64; decide)); conv => whnf)
    | omega | decide | assumption)
  refine .ret _ ?_
  conv => whnf
  exact ⟨[], ⟨rfl, rfl⟩, trivial⟩
-- CloseOf's change
theorem z268 (h : Hir) (h1 : 1 ≤ h.legs.length) (hl : h.legs.length ≤ 2^20) (r : Rdg) :
    FSpec Tryz.prog 268 [.ptr 1000001 0, .ptr 1000002 0] [(1000001, hbuf h 1000005), (1000002, rcell r), (1000005, lgBf h.legs)] (fun y o => y = .tup [] ∧ o = [(1000001, hbuf h 1000005), (1000002, rcell r), (1000005, lgBf (setIn h.legs r))]) := by
  refine spec_of hT (C := []) Tryz.func268 rfl Tryz.call268 rfl rfl rfl ?_
  conv => whnf
  repeat' (first
    | (refine br_intro (fun hb => ?_) (fun hb => ?_) <;> (try simp only [decide_eq_true_eq, decide_eq_false_iff_not, Bool.not_eq_true', Bool.not_eq_false', Bool.and_eq_true, Bool.or_eq_true, beq_iff_eq, not_and, Int.not_le, Int.not_lt, Int.toNat_natCast, beq_eq_false_iff_ne, ne_eq, eq_self, not_true_eq_false, not_false_eq_true] at hb) <;> (conv => whnf))
    | (refine RegX.rule (id := 0) hT rfl [] [(0, []), (1, []), (2, []), (3, []), (4, [0, 1, 2, 3]), (5, [0, 1, 2, 3]), (6, [0, 1, 2, 3]), (7, [0, 1, 2, 3]), (8, [0, 1, 2, 3]), (9, [0, 1, 2, 3]), (10, [0, 1, 2, 3, 4, 5, 6, 7, 8, 9]), (11, []), (12, []), (13, [])] (by decide +kernel) ?_; conv => whnf)
    | omega
    | (refine And.intro ?_ ?_; ((try dsimp only); first | omega | (refine ⟨by omega, by omega, Int.le_trans (Int.mul_le_mul_of_nonneg_right (Int.ofNat_le.2 (Nat.le_of_ble_eq_true (rfl : Nat.ble _ 1024 = true))) (by omega)) (by omega), by omega⟩) | (refine Nat.le_trans (Nat.mul_le_mul_left _ (Nat.le_of_ble_eq_true (rfl : Nat.ble _ 1024 = true))) ?_; omega) | (unfold inI64; omega) | (constructor <;> omega) | (simp only [inI64, List.length_cons, List.length_append, List.length_nil, List.length_set] at *; omega) | decide | (unfold inI64; decide)); conv => whnf)
    | omega | decide | assumption)
  refine .ret _ ?_
  conv => whnf
  exact ⟨_, ⟨rfl, rfl⟩, Res.le_refl _, Res.le_refl _, Res.le_putF setIn_put, trivial⟩
-- ExchangeOf's change
theorem z267 (h : Hir) (h1 : 1 ≤ h.legs.length) (hl : h.legs.length ≤ 2^20) (ri ro : Rdg) (v : List UInt8) :
    FSpec Tryz.prog 267 [.ptr 1000001 0, .ptr 1000002 0, .ptr 1000003 0, .ptr 1000004 0] [(1000001, hbuf h 1000005), (1000002, rcell ri), (1000003, vcell v), (1000004, rcell ro), (1000005, lgBf h.legs)]
      (fun y o => y = .tup [] ∧ o = [(1000001, hbuf h 28), (1000002, rcell ri), (1000003, vcell v), (1000004, rcell ro), (28, lgBf (setIn h.legs ri ++ [⟨v, ro, rgN⟩]))]) := by
  refine spec_of hT (C := []) Tryz.func267 rfl Tryz.call267 rfl rfl rfl ?_
  conv => whnf
  repeat' (first
    | (refine br_intro (fun hb => ?_) (fun hb => ?_) <;> (try simp only [decide_eq_true_eq, decide_eq_false_iff_not, Bool.not_eq_true', Bool.not_eq_false', Bool.and_eq_true, Bool.or_eq_true, beq_iff_eq, not_and, Int.not_le, Int.not_lt, Int.toNat_natCast, beq_eq_false_iff_ne, ne_eq, eq_self, not_true_eq_false, not_false_eq_true] at hb) <;> (conv => whnf))
    | (refine RegX.rule (id := 0) hT rfl [] [(0, []), (1, []), (2, []), (3, []), (4, [0, 1, 2, 3]), (5, [0, 1, 2, 3]), (6, [0, 1, 2, 3]), (7, [0, 1, 2, 3]), (8, [0, 1, 2, 3]), (9, [0, 1, 2, 3]), (10, [0, 1, 2, 3, 4, 5, 6, 7, 8, 9]), (11, []), (12, []), (13, [])] (by decide +kernel) ?_; conv => whnf)
    | (refine RegX.rule (id := 1) hT rfl [] [(0, []), (1, [0]), (2, [0]), (3, [0]), (4, [0]), (5, [0, 1, 2, 3, 4]), (6, [0, 1, 2, 3, 4, 5]), (7, [0, 1, 2, 3, 4, 5, 6]), (8, [0, 1, 2, 3, 4]), (9, [0, 1, 2, 3, 4]), (10, [0]), (11, []), (12, []), (13, [])] (by decide +kernel) ?_; conv => whnf)
    | omega
    | (refine And.intro ?_ ?_; ((try dsimp only); first | omega | (refine ⟨by omega, by omega, Int.le_trans (Int.mul_le_mul_of_nonneg_right (Int.ofNat_le.2 (Nat.le_of_ble_eq_true (rfl : Nat.ble _ 1024 = true))) (by omega)) (by omega), by omega⟩) | (refine Nat.le_trans (Nat.mul_le_mul_left _ (Nat.le_of_ble_eq_true (rfl : Nat.ble _ 1024 = true))) ?_; omega) | (unfold inI64; omega) | (constructor <;> omega) | (simp only [inI64, List.length_cons, List.length_append, List.length_nil, List.length_set] at *; omega) | decide | (unfold inI64; decide)); conv => whnf)
    | omega | decide | assumption)
  refine .ret _ ?_
  conv => whnf
  exact ⟨_, ⟨rfl, rfl⟩, Res.le_refl _, Res.le_refl _, Res.le_refl _, Res.le_refl _, Res.le_put_snocF setIn_put rfl, trivial⟩
-- changed, of ExchangeOf
set_option maxHeartbeats 1000000 in
theorem z266x (k : Nat) (hk : k ≤ 100) (h : Hir) (hh : hiB k h) (ri ro : Rdg) (v : List UInt8) (h2 : rgB ri) (h3 : rgB ro) (h4 : v.length ≤ 8) :
    FSpec Tryz.prog 266 [.agg ((hiF h).map .d), .fn 267 [.ptr 1000002 0, .ptr 1000003 0, .ptr 1000004 0]] [(1000002, rcell ri), (1000003, vcell v), (1000004, rcell ro)]
      (fun y o => (∃ (h' : Hir) (e : Int), hiB (k + 1) h' ∧ (e = 0 → 1 ≤ h'.legs.length) ∧ y = .tup [.agg ((hiF h').map .d), .d (.int .i64 e)]) ∧ o = [(1000002, rcell ri), (1000003, vcell v), (1000004, rcell ro)]) := by
  have hl := hh.2.2.1
  refine spec_of hT (C := []) Tryz.func266 rfl Tryz.call266 rfl rfl rfl ?_
  conv => whnf
  repeat' (first
    | (refine CallX.of (z313 h (by omega)) [] rfl ⟨SV.le_refl _, trivial⟩ trivial rfl rfl ?_; rintro x rout ⟨⟨b, hb1, rfl⟩, rfl⟩; refine ⟨rfl, ?_⟩; conv => whnf)
    | (refine br_intro (fun hb => ?_) (fun hb => ?_) <;> (try simp only [decide_eq_true_eq, decide_eq_false_iff_not, Bool.not_eq_true', Bool.not_eq_false', Bool.and_eq_true, Bool.or_eq_true, beq_iff_eq, not_and, Int.not_le, Int.not_lt, Int.toNat_natCast, beq_eq_false_iff_ne, ne_eq, eq_self, not_true_eq_false, not_false_eq_true] at hb) <;> (conv => whnf))
    | omega
    | (refine And.intro ?_ ?_; ((try dsimp only); first | omega | (refine ⟨by omega, by omega, Int.le_trans (Int.mul_le_mul_of_nonneg_right (Int.ofNat_le.2 (Nat.le_of_ble_eq_true (rfl : Nat.ble _ 1024 = true))) (by omega)) (by omega), by omega⟩) | (refine Nat.le_trans (Nat.mul_le_mul_left _ (Nat.le_of_ble_eq_true (rfl : Nat.ble _ 1024 = true))) ?_; omega) | (unfold inI64; omega) | (constructor <;> omega) | (simp only [inI64, List.length_cons, List.length_append, List.length_nil, List.length_set] at *; omega) | decide | (unfold inI64; decide)); conv => whnf)
    | omega | decide | assumption)
  · refine .weak _ ?_
    conv => whnf
    exact ⟨.tup [.agg ((hiF hi0).map .d), .d (.int .i64 11)], _, SV.le_tup ⟨SV.le_agg ⟨SV.le_refl _, SV.le_refl _, SV.le_refl _, SV.le_refl _, SV.le_nilS, trivial⟩, SV.le_refl _, trivial⟩, ⟨⟨hi0, 11, hiB_0, fun q => absurd q (by decide), rfl⟩, rfl⟩, Res.le_refl _, Res.le_refl _, Res.le_refl _, trivial⟩
  · have hn : 1 ≤ h.legs.length := hb1 (by simpa using hb)
    obtain ⟨H, hH⟩ : ∃ H : Hir, H = ⟨h.key, h.drv, h.frm, h.to, setIn h.legs ri ++ [⟨v, ro, rgN⟩]⟩ := ⟨_, rfl⟩
    have hB : hiB (k + 1) H := by
      subst hH
      refine ⟨hh.1, hh.2.1, by simp [setIn_len]; omega, fun x hx => ?_⟩
      rcases List.mem_append.1 hx with q | q
      · exact setIn_B hh.2.2.2 h2 x q
      · simp at q; subst q; exact ⟨h4, h3, by simp [rgB, rgN]⟩
    have hHl : 1 ≤ H.legs.length := by subst hH; simp
    have h265 := z265 H (hiB_K hB (by omega))
    generalize hirE H = E at h265
    have hres : ∃ (h' : Hir), hiB (k + 1) h' ∧ (E = 0 → 1 ≤ h'.legs.length) ∧ (if E = 0 then H else hi0) = h' := by
      by_cases q : E = 0
      · rw [if_pos q]; exact ⟨H, hB, fun _ => hHl, rfl⟩
      · rw [if_neg q]; exact ⟨hi0, hiB_0, fun p => absurd p q, rfl⟩
    obtain ⟨H', hB', hl', he'⟩ := hres
    rw [he'] at h265
    subst hH
    refine CallX.of (z216 h.legs hn (by omega)) [(7, 20)] rfl ⟨SV.le_refl _, trivial⟩ trivial rfl rfl ?_
    rintro x rout ⟨rfl, rfl⟩
    refine ⟨rfl, ?_⟩
    conv => whnf
    repeat' (first
      | (refine CallX.of (z267 h hn (by omega) ri ro v) [(1000001, 2), (1000002, 1000002), (1000003, 1000003), (1000004, 1000004), (1000005, 20), (28, 40)] rfl ⟨SV.le_refl _, SV.le_refl _, SV.le_refl _, SV.le_refl _, trivial⟩ ⟨Res.le_refl _, Res.le_refl _, Res.le_refl _, Res.le_refl _, Res.le_refl _, trivial⟩ rfl rfl ?_; rintro x rout ⟨rfl, rfl⟩; refine ⟨rfl, ?_⟩; conv => whnf)
      | (refine CallX.freeze _ _ _ _ 40 248 9 _ _ rfl rfl ?_; refine CallX.pure h265 ⟨SV.le_agg ⟨SV.le_refl _, SV.le_refl _, SV.le_refl _, SV.le_refl _, SV.le_refl _, trivial⟩, trivial⟩ rfl ?_; conv => whnf)
      | (refine br_intro (fun hb => ?_) (fun hb => ?_) <;> (try simp only [decide_eq_true_eq, decide_eq_false_iff_not, Bool.not_eq_true', Bool.not_eq_false', Bool.and_eq_true, Bool.or_eq_true, beq_iff_eq, not_and, Int.not_le, Int.not_lt, Int.toNat_natCast, beq_eq_false_iff_ne, ne_eq, eq_self, not_true_eq_false, not_false_eq_true] at hb) <;> (conv => whnf))
      | omega
      | (refine And.intro ?_ ?_; ((try dsimp only); first | omega | (refine ⟨by omega, by omega, Int.le_trans (Int.mul_le_mul_of_nonneg_right (Int.ofNat_le.2 (Nat.le_of_ble_eq_true (rfl : Nat.ble _ 1024 = true))) (by omega)) (by omega), by omega⟩) | (refine Nat.le_trans (Nat.mul_le_mul_left _ (Nat.le_of_ble_eq_true (rfl : Nat.ble _ 1024 = true))) ?_; omega) | (unfold inI64; omega) | (constructor <;> omega) | (simp only [inI64, List.length_cons, List.length_append, List.length_nil, List.length_set] at *; omega) | decide | (unfold inI64; decide)); conv => whnf)
      | omega | decide | assumption)
    refine .ret _ ?_
    conv => whnf
    exact ⟨_, ⟨⟨H', _, hB', hl', rfl⟩, rfl⟩, Res.le_refl _, Res.le_refl _, Res.le_refl _, trivial⟩
-- changed, of CloseOf
set_option maxHeartbeats 1000000 in
theorem z266c (k : Nat) (hk : k ≤ 100) (h : Hir) (hh : hiB k h) (ri : Rdg) (h2 : rgB ri) :
    FSpec Tryz.prog 266 [.agg ((hiF h).map .d), .fn 268 [.ptr 1000002 0]] [(1000002, rcell ri)]
      (fun y o => (∃ (h' : Hir) (e : Int), hiB k h' ∧ (e = 0 → 1 ≤ h'.legs.length) ∧ y = .tup [.agg ((hiF h').map .d), .d (.int .i64 e)]) ∧ o = [(1000002, rcell ri)]) := by
  have hl := hh.2.2.1
  refine spec_of hT (C := []) Tryz.func266 rfl Tryz.call266 rfl rfl rfl ?_
  conv => whnf
  repeat' (first
    | (refine CallX.of (z313 h (by omega)) [] rfl ⟨SV.le_refl _, trivial⟩ trivial rfl rfl ?_; rintro x rout ⟨⟨b, hb1, rfl⟩, rfl⟩; refine ⟨rfl, ?_⟩; conv => whnf)
    | (refine br_intro (fun hb => ?_) (fun hb => ?_) <;> (try simp only [decide_eq_true_eq, decide_eq_false_iff_not, Bool.not_eq_true', Bool.not_eq_false', Bool.and_eq_true, Bool.or_eq_true, beq_iff_eq, not_and, Int.not_le, Int.not_lt, Int.toNat_natCast, beq_eq_false_iff_ne, ne_eq, eq_self, not_true_eq_false, not_false_eq_true] at hb) <;> (conv => whnf))
    | omega
    | (refine And.intro ?_ ?_; ((try dsimp only); first | omega | (refine ⟨by omega, by omega, Int.le_trans (Int.mul_le_mul_of_nonneg_right (Int.ofNat_le.2 (Nat.le_of_ble_eq_true (rfl : Nat.ble _ 1024 = true))) (by omega)) (by omega), by omega⟩) | (refine Nat.le_trans (Nat.mul_le_mul_left _ (Nat.le_of_ble_eq_true (rfl : Nat.ble _ 1024 = true))) ?_; omega) | (unfold inI64; omega) | (constructor <;> omega) | (simp only [inI64, List.length_cons, List.length_append, List.length_nil, List.length_set] at *; omega) | decide | (unfold inI64; decide)); conv => whnf)
    | omega | decide | assumption)
  · refine .weak _ ?_
    conv => whnf
    exact ⟨.tup [.agg ((hiF hi0).map .d), .d (.int .i64 11)], _, SV.le_tup ⟨SV.le_agg ⟨SV.le_refl _, SV.le_refl _, SV.le_refl _, SV.le_refl _, SV.le_nilS, trivial⟩, SV.le_refl _, trivial⟩, ⟨⟨hi0, 11, hiB_0, fun q => absurd q (by decide), rfl⟩, rfl⟩, Res.le_refl _, trivial⟩
  · have hn : 1 ≤ h.legs.length := hb1 (by simpa using hb)
    obtain ⟨H, hH⟩ : ∃ H : Hir, H = ⟨h.key, h.drv, h.frm, h.to, setIn h.legs ri⟩ := ⟨_, rfl⟩
    have hB : hiB k H := by
      subst hH
      exact ⟨hh.1, hh.2.1, by simp [setIn_len]; omega, setIn_B hh.2.2.2 h2⟩
    have hHl : 1 ≤ H.legs.length := by subst hH; simp [setIn_len]; omega
    have h265 := z265 H (hiB_K hB (by omega))
    generalize hirE H = E at h265
    have hres : ∃ (h' : Hir), hiB k h' ∧ (E = 0 → 1 ≤ h'.legs.length) ∧ (if E = 0 then H else hi0) = h' := by
      by_cases q : E = 0
      · rw [if_pos q]; exact ⟨H, hB, fun _ => hHl, rfl⟩
      · rw [if_neg q]; exact ⟨hi0, hiB_0, fun p => absurd p q, rfl⟩
    obtain ⟨H', hB', hl', he'⟩ := hres
    rw [he'] at h265
    subst hH
    refine CallX.of (z216 h.legs hn (by omega)) [(7, 20)] rfl ⟨SV.le_refl _, trivial⟩ trivial rfl rfl ?_
    rintro x rout ⟨rfl, rfl⟩
    refine ⟨rfl, ?_⟩
    conv => whnf
    repeat' (first
      | (refine CallX.of (z268 h hn (by omega) ri) [(1000001, 2), (1000002, 1000002), (1000005, 20)] rfl ⟨SV.le_refl _, SV.le_refl _, trivial⟩ ⟨Res.le_refl _, Res.le_refl _, Res.le_refl _, trivial⟩ rfl rfl ?_; rintro x rout ⟨rfl, rfl⟩; refine ⟨rfl, ?_⟩; conv => whnf)
      | (refine CallX.freeze _ _ _ _ 20 248 9 _ _ rfl rfl ?_; refine CallX.pure h265 ⟨SV.le_agg ⟨SV.le_refl _, SV.le_refl _, SV.le_refl _, SV.le_refl _, SV.le_refl _, trivial⟩, trivial⟩ rfl ?_; conv => whnf)
      | (refine br_intro (fun hb => ?_) (fun hb => ?_) <;> (try simp only [decide_eq_true_eq, decide_eq_false_iff_not, Bool.not_eq_true', Bool.not_eq_false', Bool.and_eq_true, Bool.or_eq_true, beq_iff_eq, not_and, Int.not_le, Int.not_lt, Int.toNat_natCast, beq_eq_false_iff_ne, ne_eq, eq_self, not_true_eq_false, not_false_eq_true] at hb) <;> (conv => whnf))
      | omega
      | (refine And.intro ?_ ?_; ((try dsimp only); first | omega | (refine ⟨by omega, by omega, Int.le_trans (Int.mul_le_mul_of_nonneg_right (Int.ofNat_le.2 (Nat.le_of_ble_eq_true (rfl : Nat.ble _ 1024 = true))) (by omega)) (by omega), by omega⟩) | (refine Nat.le_trans (Nat.mul_le_mul_left _ (Nat.le_of_ble_eq_true (rfl : Nat.ble _ 1024 = true))) ?_; omega) | (unfold inI64; omega) | (constructor <;> omega) | (simp only [inI64, List.length_cons, List.length_append, List.length_nil, List.length_set] at *; omega) | decide | (unfold inI64; decide)); conv => whnf)
      | omega | decide | assumption)
    refine .ret _ ?_
    conv => whnf
    exact ⟨_, ⟨⟨H', _, hB', hl', rfl⟩, rfl⟩, Res.le_refl _, trivial⟩
-- ExchangeOf
theorem z214 (k : Nat) (hk : k ≤ 100) (h : Hir) (hh : hiB k h) (ri ro : Rdg) (v : List UInt8) (h2 : rgB ri) (h3 : rgB ro) (h4 : v.length ≤ 8) :
    FSpec Tryz.prog 214 [.agg ((hiF h).map .d), .agg ((rgF ri).map .d), .d (.str v), .agg ((rgF ro).map .d)] []
      (fun y o => (∃ (h' : Hir) (e : Int), hiB (k + 1) h' ∧ (e = 0 → 1 ≤ h'.legs.length) ∧ y = .tup [.agg ((hiF h').map .d), .d (.int .i64 e)]) ∧ o = []) := by
  refine spec_of hT (C := []) Tryz.func214 rfl Tryz.call214 rfl rfl rfl ?_
  conv => whnf
  repeat' (first
    | (refine CallX.of (z266x k hk h hh ri ro v h2 h3 h4) [(1000002, 5), (1000003, 6), (1000004, 7)] rfl ⟨SV.le_refl _, SV.le_refl _, trivial⟩ ⟨Res.le_refl _, Res.le_refl _, Res.le_refl _, trivial⟩ rfl rfl ?_; rintro x rout ⟨⟨h5, e5, hb5, hl5, rfl⟩, rfl⟩; refine ⟨rfl, ?_⟩; conv => whnf)
    | (refine br_intro (fun hb => ?_) (fun hb => ?_) <;> (try simp only [decide_eq_true_eq, decide_eq_false_iff_not, Bool.not_eq_true', Bool.not_eq_false', Bool.and_eq_true, Bool.or_eq_true, beq_iff_eq, not_and, Int.not_le, Int.not_lt, Int.toNat_natCast, beq_eq_false_iff_ne, ne_eq, eq_self, not_true_eq_false, not_false_eq_true] at hb) <;> (conv => whnf))
    | omega
    | (refine And.intro ?_ ?_; ((try dsimp only); first | omega | (refine ⟨by omega, by omega, Int.le_trans (Int.mul_le_mul_of_nonneg_right (Int.ofNat_le.2 (Nat.le_of_ble_eq_true (rfl : Nat.ble _ 1024 = true))) (by omega)) (by omega), by omega⟩) | (refine Nat.le_trans (Nat.mul_le_mul_left _ (Nat.le_of_ble_eq_true (rfl : Nat.ble _ 1024 = true))) ?_; omega) | (unfold inI64; omega) | (constructor <;> omega) | (simp only [inI64, List.length_cons, List.length_append, List.length_nil, List.length_set] at *; omega) | decide | (unfold inI64; decide)); conv => whnf)
    | omega | decide | assumption)
  refine .ret _ ?_
  conv => whnf
  exact ⟨[], ⟨⟨h5, e5, hb5, hl5, rfl⟩, rfl⟩, trivial⟩
-- CloseOf
theorem z215 (k : Nat) (hk : k ≤ 100) (h : Hir) (hh : hiB k h) (ri : Rdg) (h2 : rgB ri) :
    FSpec Tryz.prog 215 [.agg ((hiF h).map .d), .agg ((rgF ri).map .d)] []
      (fun y o => (∃ (h' : Hir) (e : Int), hiB k h' ∧ (e = 0 → 1 ≤ h'.legs.length) ∧ y = .tup [.agg ((hiF h').map .d), .d (.int .i64 e)]) ∧ o = []) := by
  refine spec_of hT (C := []) Tryz.func215 rfl Tryz.call215 rfl rfl rfl ?_
  conv => whnf
  repeat' (first
    | (refine CallX.of (z266c k hk h hh ri h2) [(1000002, 3)] rfl ⟨SV.le_refl _, SV.le_refl _, trivial⟩ ⟨Res.le_refl _, trivial⟩ rfl rfl ?_; rintro x rout ⟨⟨h5, e5, hb5, hl5, rfl⟩, rfl⟩; refine ⟨rfl, ?_⟩; conv => whnf)
    | (refine br_intro (fun hb => ?_) (fun hb => ?_) <;> (try simp only [decide_eq_true_eq, decide_eq_false_iff_not, Bool.not_eq_true', Bool.not_eq_false', Bool.and_eq_true, Bool.or_eq_true, beq_iff_eq, not_and, Int.not_le, Int.not_lt, Int.toNat_natCast, beq_eq_false_iff_ne, ne_eq, eq_self, not_true_eq_false, not_false_eq_true] at hb) <;> (conv => whnf))
    | omega
    | (refine And.intro ?_ ?_; ((try dsimp only); first | omega | (refine ⟨by omega, by omega, Int.le_trans (Int.mul_le_mul_of_nonneg_right (Int.ofNat_le.2 (Nat.le_of_ble_eq_true (rfl : Nat.ble _ 1024 = true))) (by omega)) (by omega), by omega⟩) | (refine Nat.le_trans (Nat.mul_le_mul_left _ (Nat.le_of_ble_eq_true (rfl : Nat.ble _ 1024 = true))) ?_; omega) | (unfold inI64; omega) | (constructor <;> omega) | (simp only [inI64, List.length_cons, List.length_append, List.length_nil, List.length_set] at *; omega) | decide | (unfold inI64; decide)); conv => whnf)
    | omega | decide | assumption)
  refine .ret _ ?_
  conv => whnf
  exact ⟨[], ⟨⟨h5, e5, hb5, hl5, rfl⟩, rfl⟩, trivial⟩
end Go.Proofs.YtnkdlkgannnfhaaGreatDoor
namespace Go.Proofs.YtnkdlkgannnfhaaGreatDoor
open Go Go.Eng
theorem sum_setI : ∀ (P : List Int) (k : Nat) (x : Int), k < P.length → (P.set k x).sum = P.sum - P.getD k 0 + x
  | [], _, _, h => absurd h (by simp)
  | p :: P, 0, x, _ => by simp; omega
  | p :: P, k + 1, x, h => by
    have := sum_setI P k x (by simpa using h)
    simp only [List.set_cons_succ, List.sum_cons, List.getD_cons_succ, this]; omega
theorem incL_sum : ∀ (js P : List Int), (∀ j ∈ js, 0 ≤ j ∧ j.toNat < P.length) → (incL P js).sum = P.sum + js.length := by
  intro js
  induction js with
  | nil => intro P _; simp [incL]
  | cons j js ih =>
    intro P h
    have hj := h j (by simp)
    have e : incL P (j :: js) = incL (P.set j.toNat (P.getD j.toNat 0 + 1)) js := rfl
    rw [e, ih _ (fun i hi => by rw [List.length_set]; exact h i (by simp [hi])), sum_setI P _ _ hj.2, List.length_cons]
    push_cast
    omega
theorem splitG_sum (c : Int) (w : List Int) (hl : 0 ≤ leftL c (partG c w) w.length ∧ leftL c (partG c w) w.length ≤ w.length) : (splitG c w).sum = c := by
  have hF : fillL (fun j => (j : Int)) w.length w.length = (List.range w.length).map (fun j : Nat => (j : Int)) := by
    unfold fillL
    exact List.map_congr_left fun j hj => by rw [if_pos (List.mem_range.1 hj)]
  have hperm : (orderG c w).Perm ((List.range w.length).map (fun j : Nat => (j : Int))) := by rw [← hF]; exact isort_perm _ _
  have hlen : (orderG c w).length = w.length := by rw [hperm.length_eq]; simp
  have hmem : ∀ j ∈ (orderG c w).take (leftL c (partG c w) w.length).toNat, 0 ≤ j ∧ j.toNat < (fillL (partG c w) w.length w.length).length := fun j hj => by
    have := hperm.mem_iff.1 (List.mem_of_mem_take hj)
    simp only [List.mem_map, List.mem_range] at this
    obtain ⟨i, hi, rfl⟩ := this
    rw [fillL_length]; omega
  have hP : (fillL (partG c w) w.length w.length).sum = ((List.range w.length).map (partG c w)).sum := by
    unfold fillL
    exact congrArg List.sum (List.map_congr_left fun j hj => by rw [if_pos (List.mem_range.1 hj)])
  unfold splitG
  rw [incL_sum _ _ hmem, hP, List.length_take, hlen]
  have e : leftL c (partG c w) w.length = c - ((List.range w.length).map (partG c w)).sum := rfl
  omega
theorem left_ahead (c : Int) (w : List Int) (hc : 0 ≤ c) (hw : ∀ x ∈ w, 0 ≤ x) (hs : 0 < w.sum) (k : Nat) (h0 : w.getD k 0 = 0) : ∀ i, i ≤ w.length → ∃ R, R ≤ w.sum * aheadG c w k i ∧ w.sum * ((List.range i).map (partG c w)).sum + R = c * (w.take i).sum := by
  intro i
  have hk : remG c w k = 0 := by unfold remG; rw [h0, Int.mul_zero]; exact Int.zero_tmod _
  induction i with
  | zero => intro _; exact ⟨0, by simp [aheadG], by simp⟩
  | succ i ih =>
    intro hi
    obtain ⟨R, h2, h3⟩ := ih (by omega)
    have hx : w.getD i 0 = w[i] := by rw [List.getD_eq_getElem?_getD]; simp [show i < w.length by omega]
    have h4 := Int.tmod_add_mul_tdiv (c * w[i]) w.sum
    have h5 : 0 ≤ c * w[i] := Int.mul_nonneg hc (hw _ (List.getElem_mem _))
    have h6 := Int.tmod_nonneg w.sum h5
    have h7 := Int.tmod_lt_of_pos (c * w[i]) hs
    have hr : remG c w i = (c * w[i]).tmod w.sum := by unfold remG; rw [hx]
    refine ⟨R + (c * w[i]).tmod w.sum, ?_, ?_⟩
    · rw [aheadG_succ, Int.mul_add]
      by_cases q : remG c w i = 0
      · rw [hr] at q
        have : 0 ≤ w.sum * (if aheadB c w k i = true then 1 else 0) := Int.mul_nonneg (by omega) (by split <;> omega)
        omega
      · have : aheadB c w k i = true := by unfold aheadB; rw [hk]; simp only [Bool.or_eq_true, decide_eq_true_eq]; left; omega
        rw [if_pos this]; omega
    · rw [sum_take (show i < w.length by omega), Int.mul_add, ← h3, List.range_succ, List.map_append, List.sum_append, List.map_singleton, List.sum_singleton, Int.mul_add]
      have : partG c w i = (c * w[i]).tdiv w.sum := by unfold partG; rw [hx]
      rw [this]; omega
theorem splitF_zero {c : Int} {w : List Int} (h : splitF c w = 0) : (0 ≤ c ∧ c ≤ 1000000000) ∧ w.length ≤ 50 ∧ (∀ x ∈ w, 0 ≤ x ∧ x ≤ 5761440) ∧ 0 < w.sum := by
  unfold splitF at h
  split at h
  · cases h
  rename_i h1
  split at h
  · cases h
  rename_i h2
  split at h
  · cases h
  rename_i h3
  split at h
  · cases h
  rename_i h4
  have hw : ∀ x ∈ w, 0 ≤ x ∧ x ≤ 5761440 := fun x hx => by
    by_cases q : 0 ≤ x ∧ x ≤ 5761440
    · exact q
    · exfalso; apply h3; rw [List.any_eq_true]; exact ⟨x, hx, by simp [q]⟩
  have := sum_nonneg fun x hx => (hw x hx).1
  exact ⟨by omega, by omega, hw, by omega⟩
/-- A part: at least 0, and 0 where the weight is. -/
theorem splitG_part {c : Int} {w : List Int} (hc : 0 ≤ c) (hw : ∀ x ∈ w, 0 ≤ x) (hs : 0 < w.sum) {i : Nat} (hi : i < w.length) :
    0 ≤ (splitG c w).getD i 0 ∧ (w.getD i 0 = 0 → (splitG c w).getD i 0 = 0) := by
  have hl := left_bound c w hc hw hs
  rw [splitG_eq c w hl]
  have e : (rngL (splitE c w) w.length).getD i 0 = splitE c w i := by rw [List.getD_eq_getElem?_getD]; simp [rngL, hi]
  rw [e]
  have hx : w.getD i 0 = w[i] := by rw [List.getD_eq_getElem?_getD]; simp [hi]
  have hp : 0 ≤ partG c w i := Int.tdiv_nonneg (Int.mul_nonneg hc (by rw [hx]; exact hw _ (List.getElem_mem _))) (by omega)
  unfold splitE
  refine ⟨by split <;> omega, fun h0 => ?_⟩
  obtain ⟨R, h2, h3⟩ := left_ahead c w hc hw hs i h0 w.length (Nat.le_refl _)
  rw [List.take_length] at h3
  have h4 : w.sum * leftL c (partG c w) w.length = R := by
    unfold leftL
    rw [Int.mul_sub, Int.mul_comm w.sum c]; omega
  have h5 : leftL c (partG c w) w.length ≤ aheadG c w i w.length := Int.le_of_mul_le_mul_left (by rw [h4]; exact h2) hs
  rw [if_neg (by omega)]
  have : partG c w i = 0 := by unfold partG; rw [h0, Int.mul_zero]; exact Int.zero_tdiv _
  omega
/-- What the hires pay and what is left is all there was. -/
theorem ex_sum (l ws : List Pair) : exN l ws + ((exL l ws).map (·.2)).sum = (l.map (·.2)).sum := by
  induction l with
  | nil => rfl
  | cons x l ih =>
    unfold exN exL at *
    simp only [List.map_cons, List.sum_cons, List.filter_cons]
    by_cases q : x.1 = []
    · simp only [q, decide_true, Bool.not_true, if_true, Bool.false_eq_true, if_false] at *; omega
    · simp only [q, decide_false, Bool.not_false, if_true, if_false, List.map_cons, List.sum_cons] at *; omega
end Go.Proofs.YtnkdlkgannnfhaaGreatDoor
set_option maxRecDepth 20000
namespace Go.Proofs.YtnkdlkgannnfhaaGreatDoor
open Go Go.Eng
structure Slt where
  day : Int
  many : Int
def slF : Slt → List DV := fun s => [.int .i64 s.day, .int .i64 s.many]
def sl0 : Slt := ⟨0, 0⟩
abbrev slts (l : List Slt) : DV := seqD 2 slF sl0 l
structure Wnt where
  v : List UInt8
  fr : Int
  to : Int
def wnF : Wnt → List DV := fun s => [.str s.v, .int .i64 s.fr, .int .i64 s.to]
def wn0 : Wnt := ⟨[], 0, 0⟩
abbrev wnts (l : List Wnt) : DV := seqD 3 wnF wn0 l
structure Plc where
  v : List UInt8
  day : Int
def plF : Plc → List DV := fun s => [.str s.v, .int .i64 s.day]
def pl0 : Plc := ⟨[], 0⟩
abbrev plcs (l : List Plc) : DV := seqD 2 plF pl0 l
structure Bsy where
  v : List UInt8
  fr : Int
  to : Int
  cents : Int
def bsF : Bsy → List DV := fun s => [.str s.v, .int .i64 s.fr, .int .i64 s.to, .int .i64 s.cents]
def bs0 : Bsy := ⟨[], 0, 0, 0⟩
abbrev bsys (l : List Bsy) : DV := seqD 4 bsF bs0 l
def sltE (l : List Slt) (i : Nat) : Int :=
  let x := l.getD i sl0
  if ¬ ((0 ≤ x.day ∧ x.day ≤ 4000) ∧ (0 ≤ x.many ∧ x.many ≤ 20)) then 1 else if 0 < i ∧ x.day ≤ (l.getD (i - 1) sl0).day then 7 else 0
def sltsE (l : List Slt) : Int := if 12 < l.length then 2 else firstAt (sltE l) l.length
def wntE (l : List Wnt) (i : Nat) : Int :=
  let x := l.getD i wn0
  if isKeyB x.v = false then 5 else if 0 < i ∧ strLe x.v (l.getD (i - 1) wn0).v = true then 7 else if ¬ ((0 ≤ x.fr ∧ x.fr ≤ x.to) ∧ x.to ≤ 4001) then 1 else 0
def wntsE (l : List Wnt) : Int := if 6 < l.length then 2 else firstAt (wntE l) l.length
def plcE (l : List Plc) (i : Nat) : Int :=
  let x := l.getD i pl0
  if isKeyB x.v = false then 5 else if 0 < i ∧ strLe x.v (l.getD (i - 1) pl0).v = true then 7 else if ¬ (0 ≤ x.day ∧ x.day ≤ 4000) then 1 else 0
def plcsE (l : List Plc) : Int := if 6 < l.length then 2 else firstAt (plcE l) l.length
def bsyE (l : List Bsy) (i : Nat) : Int :=
  let x := l.getD i bs0
  if isKeyB x.v = false then 5 else if ¬ (((0 ≤ x.fr ∧ x.fr ≤ x.to) ∧ x.to ≤ 4001) ∧ (0 ≤ x.cents ∧ x.cents ≤ 1000000)) then 1 else 0
def bsysE (l : List Bsy) : Int := if 200 < l.length then 2 else firstAt (bsyE l) l.length
def sltIx (l : List Slt) (day : Int) : Int := ixF (fun i => decide ((l.getD i sl0).day = day)) l.length
/-- How many of the first n are placed on a day. -/
def cntD (l : List Plc) (day : Int) : Nat → Int
  | 0 => 0
  | n + 1 => cntD l day n + (if (l.getD n pl0).day = day then 1 else 0)
theorem cntD_bd (l : List Plc) (day : Int) : ∀ n, 0 ≤ cntD l day n ∧ cntD l day n ≤ n := by
  intro n
  induction n with
  | zero => simp [cntD]
  | succ n ih => rw [cntD]; split <;> omega
def namesB (w : List Wnt) (l : List Plc) : Prop := w.length = l.length ∧ ∀ i, i < w.length → (w.getD i wn0).v = (l.getD i pl0).v
def setE (s : List Slt) (w : List Wnt) (l : List Plc) (i : Nat) : Int :=
  let p := l.getD i pl0
  if ¬ ((w.getD i wn0).fr ≤ p.day ∧ p.day < (w.getD i wn0).to) then 16 else if sltIx s p.day < 0 then 8 else 0
def roomE (s : List Slt) (l : List Plc) (k : Nat) : Int := if (s.getD k sl0).many < cntD l (s.getD k sl0).day l.length then 12 else 0
instance (w : List Wnt) (l : List Plc) : Decidable (namesB w l) := inferInstanceAs (Decidable (_ ∧ _))
def placedE (s : List Slt) (w : List Wnt) (l : List Plc) : Int :=
  if ¬ namesB w l then 3 else if firstAt (setE s w l) l.length ≠ 0 then firstAt (setE s w l) l.length else firstAt (roomE s l) s.length
def placeE (s : List Slt) (w : List Wnt) (l : List Plc) : Int :=
  if sltsE s ≠ 0 then sltsE s else if wntsE w ≠ 0 then wntsE w else if plcsE l ≠ 0 then plcsE l else placedE s w l
theorem slts_inc {s : List Slt} (h : sltsE s = 0) : ∀ {j i : Nat}, i < j → j < s.length → (s.getD i sl0).day < (s.getD j sl0).day := by
  unfold sltsE at h
  split at h
  · cases h
  intro j
  induction j with
  | zero => intro i h; omega
  | succ j ih =>
    intro i hi hj
    have := firstAt_all h (j + 1) hj
    unfold sltE at this
    simp only at this
    by_cases q : i = j
    · subst q; grind
    · have := ih (i := i) (by omega) (by omega); grind
theorem slts_bd {s : List Slt} (h : sltsE s = 0) : s.length ≤ 12 ∧ ∀ x ∈ s, (0 ≤ x.day ∧ x.day ≤ 4000) ∧ (0 ≤ x.many ∧ x.many ≤ 20) := by
  unfold sltsE at h
  split at h
  · cases h
  refine ⟨by omega, fun x hx => ?_⟩
  obtain ⟨i, hi, rfl⟩ := List.getElem_of_mem hx
  have := firstAt_all h i hi
  unfold sltE at this
  simp only [List.getD_eq_getElem?_getD, List.getElem?_eq_getElem hi, Option.getD_some] at this
  grind
theorem sltIx_hit {s : List Slt} (h : sltsE s = 0) {day : Int} {k : Nat} (h0 : 0 ≤ sltIx s day) (hk : k < s.length) : (s.getD k sl0).day = day ↔ k = (sltIx s day).toNat := by
  have hb := ixF_bd (p := fun i => decide ((s.getD i sl0).day = day)) (n := s.length)
  change -1 ≤ sltIx s day ∧ sltIx s day < s.length ∧ (0 ≤ sltIx s day → decide ((s.getD (sltIx s day).toNat sl0).day = day) = true) at hb
  have h1 := of_decide_eq_true (hb.2.2 h0)
  constructor
  · intro e
    rcases Nat.lt_trichotomy k (sltIx s day).toNat with q | q | q
    · have := slts_inc h q (by omega); omega
    · exact q
    · have := slts_inc h q hk; omega
  · rintro rfl; exact h1
def sumN (f : Nat → Int) : Nat → Int
  | 0 => 0
  | n + 1 => sumN f n + f n
theorem sumN_add (f g : Nat → Int) : ∀ n, sumN (fun i => f i + g i) n = sumN f n + sumN g n := by
  intro n
  induction n with
  | zero => rfl
  | succ n ih => simp only [sumN, ih]; omega
theorem sumN_zero : ∀ n, sumN (fun _ => 0) n = 0 := by
  intro n
  induction n with
  | zero => rfl
  | succ n ih => simp only [sumN, ih]; omega
theorem sumN_swap (f : Nat → Nat → Int) (m : Nat) : ∀ n, sumN (fun i => sumN (fun j => f i j) m) n = sumN (fun j => sumN (fun i => f i j) n) m := by
  intro n
  induction n with
  | zero => simp only [sumN]; exact (sumN_zero m).symm
  | succ n ih => simp only [sumN, ih]; rw [← sumN_add]
theorem sumN_bd {f : Nat → Int} {c : Int} : ∀ {n : Nat}, (∀ i, i < n → 0 ≤ f i ∧ f i ≤ c) → 0 ≤ sumN f n ∧ sumN f n ≤ n * c := by
  intro n
  induction n with
  | zero => intro _; simp [sumN]
  | succ n ih =>
    intro h
    have h1 := ih fun i hi => h i (by omega)
    have h2 := h n (by omega)
    have e : ((n + 1 : Nat) : Int) * c = n * c + c := by rw [Int.natCast_succ, Int.add_mul, Int.one_mul]
    rw [sumN, e]; omega
def lostC (b : Bsy) (p : Plc) : Int := if b.v = p.v ∧ b.fr ≤ p.day ∧ p.day < b.to then b.cents else 0
def lostP (b : List Bsy) (p : Plc) : Int := sumN (fun i => lostC (b.getD i bs0) p) b.length
def lostA (b : List Bsy) (l : List Plc) : Int := sumN (fun j => lostP b (l.getD j pl0)) l.length
theorem lost_swap (b : List Bsy) (l : List Plc) : sumN (fun i => sumN (fun j => lostC (b.getD i bs0) (l.getD j pl0)) l.length) b.length = lostA b l := sumN_swap _ _ _
theorem bsys_bd {b : List Bsy} (h : bsysE b = 0) : b.length ≤ 200 ∧ ∀ i, i < b.length → 0 ≤ (b.getD i bs0).cents ∧ (b.getD i bs0).cents ≤ 1000000 := by
  unfold bsysE at h
  split at h
  · cases h
  refine ⟨by omega, fun i hi => ?_⟩
  have := firstAt_all h i hi
  unfold bsyE at this
  simp only at this
  grind
theorem lostC_bd {b : Bsy} {p : Plc} (h : 0 ≤ b.cents ∧ b.cents ≤ 1000000) : 0 ≤ lostC b p ∧ lostC b p ≤ 1000000 := by
  unfold lostC; split <;> omega
end Go.Proofs.YtnkdlkgannnfhaaGreatDoor
set_option maxRecDepth 20000
namespace Go.Proofs.YtnkdlkgannnfhaaGreatDoor
open Go Go.Eng
def slK (_ : Slt) : Prop := True
def slOk (l : List Slt) : Prop := l.length ≤ 2^40 ∧ ∀ x ∈ l, slK x
def wnK (x : Wnt) : Prop := x.v.length ≤ 2^40
def wnOk (l : List Wnt) : Prop := l.length ≤ 2^40 ∧ ∀ x ∈ l, wnK x
def plK (x : Plc) : Prop := x.v.length ≤ 2^40
def plOk (l : List Plc) : Prop := l.length ≤ 2^40 ∧ ∀ x ∈ l, plK x
def bsK (x : Bsy) : Prop := x.v.length ≤ 2^40
def bsOk (l : List Bsy) : Prop := l.length ≤ 2^40 ∧ ∀ x ∈ l, bsK x
-- shift.span
-- shift.checkSlots
-- SlotsFault
-- shift.checkWanted
-- WantedFault
-- shift.checkPlacedList
-- PlacedForm
-- shift.checkBusy
-- BusyFault
end Go.Proofs.YtnkdlkgannnfhaaGreatDoor
set_option maxRecDepth 20000
namespace Go.Proofs.YtnkdlkgannnfhaaGreatDoor
open Go Go.Eng
-- slices.EqualFunc of wanted and placed ones
def icell (n : Int) : Res := .cells 3 [.d (.int .i64 n)]
-- slices.IndexFunc of slots
-- slices.ContainsFunc of slots
-- shift.slotAt
end Go.Proofs.YtnkdlkgannnfhaaGreatDoor
set_option maxRecDepth 20000
namespace Go.Proofs.YtnkdlkgannnfhaaGreatDoor
open Go Go.Eng
theorem getD_zeros (n i : Nat) : (List.replicate n (0 : Int)).getD i 0 = 0 := by
  rw [List.getD_eq_getElem?_getD, List.getElem?_replicate]; split <;> rfl
theorem Res.le_zeros {n : Nat} : Res.le (.buf 3 1 ((n : Nat) : Int).toNat fun _ => [cstD (.int .i64 0)]) (seqB 3 1 iF 0 (List.replicate n 0)) :=
  Res.le_buf (by simp) (fun i hi => by simp only [rowF, getD_zeros]; rfl)
theorem sltIx_lt (s : List Slt) (n : Int) : sltIx s n < s.length := (ixF_bd (p := fun i => decide ((s.getD i sl0).day = n)) (n := s.length)).2.1
theorem plcs_bd {l : List Plc} (h : plcsE l = 0) : l.length ≤ 6 ∧ ∀ i, i < l.length → 0 ≤ (l.getD i pl0).day ∧ (l.getD i pl0).day ≤ 4000 := by
  unfold plcsE at h
  split at h
  · cases h
  refine ⟨by omega, fun i hi => ?_⟩
  have := firstAt_all h i hi
  unfold plcE at this
  simp only at this
  grind
theorem wnts_bd {l : List Wnt} (h : wntsE l = 0) : l.length ≤ 6 ∧ ∀ i, i < l.length → (0 ≤ (l.getD i wn0).fr ∧ (l.getD i wn0).fr ≤ (l.getD i wn0).to) ∧ (l.getD i wn0).to ≤ 4001 := by
  unfold wntsE at h
  split at h
  · cases h
  refine ⟨by omega, fun i hi => ?_⟩
  have := firstAt_all h i hi
  unfold wntE at this
  simp only at this
  grind
-- PlacedFault, all else right
-- shift.CheckPlaced
end Go.Proofs.YtnkdlkgannnfhaaGreatDoor
set_option maxRecDepth 20000
namespace Go.Proofs.YtnkdlkgannnfhaaGreatDoor
open Go Go.Eng
-- shift.lost
def lostE (b : List Bsy) (l : List Plc) : Int := firstE [bsysE b, plcsE l]
-- shift.Lost
theorem s112c (b : Bool) : FSpec Tryz.prog 114 [.d (.bool b)] [] (fun x r => ((b = true ∧ x = .d (.int .i64 1)) ∨ (b = false ∧ x = .d (.int .i64 0))) ∧ r = []) :=
  (s112 b).mono (by rintro x r ⟨rfl, rfl⟩; cases b <;> simp)
-- LostOf
end Go.Proofs.YtnkdlkgannnfhaaGreatDoor
set_option maxRecDepth 20000
namespace Go.Proofs.YtnkdlkgannnfhaaGreatDoor
open Go Go.Eng
-- Slots
def wnG (x : Wnt) : Prop := x.v.length ≤ 8 ∧ -2^40 ≤ x.fr ∧ x.fr ≤ 2^40
-- Wanted
def bsG (x : Bsy) : Prop := x.v.length ≤ 8
-- BusyOf
def plG (x : Plc) : Prop := x.v.length ≤ 8
-- placed
end Go.Proofs.YtnkdlkgannnfhaaGreatDoor
set_option maxRecDepth 20000
namespace Go.Proofs.YtnkdlkgannnfhaaGreatDoor
open Go Go.Eng
structure Ned where
  st : List UInt8
  many : Int
def ndF : Ned → List DV := fun s => [.str s.st, .int .i64 s.many]
def nd0 : Ned := ⟨[], 0⟩
abbrev neds (l : List Ned) : DV := seqD 2 ndF nd0 l
structure Roa where
  a : List UInt8
  b : List UInt8
  car : Int
  ride : Int
def rdF : Roa → List DV := fun s => [.str s.a, .str s.b, .int .i64 s.car, .int .i64 s.ride]
def rd0 : Roa := ⟨[], [], 0, 0⟩
abbrev roas (l : List Roa) : DV := seqD 4 rdF rd0 l
structure Mov where
  a : List UInt8
  b : List UInt8
  many : Int
def mvF : Mov → List DV := fun s => [.str s.a, .str s.b, .int .i64 s.many]
def mv0 : Mov := ⟨[], [], 0⟩
abbrev movs (l : List Mov) : DV := seqD 3 mvF mv0 l
def ndE (l : List Ned) (i : Nat) : Int :=
  let x := l.getD i nd0
  if isKeyB x.st = false then 5 else if 0 < i ∧ strLe x.st (l.getD (i - 1) nd0).st = true then 7 else if ¬ (-20 ≤ x.many ∧ x.many ≤ 20) then 1 else 0
def ndsE (l : List Ned) : Int := if 10 < l.length then 2 else firstAt (ndE l) l.length
def ndK (x : Ned) : Prop := x.st.length ≤ 2^40
def ndOk (l : List Ned) : Prop := l.length ≤ 2^40 ∧ ∀ x ∈ l, ndK x
def endsC (a b c d : List UInt8) : Int := firstE [cmpS a c, cmpS b d]
def rdE (l : List Roa) (i : Nat) : Int :=
  let x := l.getD i rd0
  if isKeyB x.a = false ∨ isKeyB x.b = false then 5 else if x.a = x.b then 14 else if 0 < i ∧ 0 ≤ endsC (l.getD (i - 1) rd0).a (l.getD (i - 1) rd0).b x.a x.b then 7 else if ¬ ((0 ≤ x.car ∧ x.car ≤ 1000000) ∧ (0 ≤ x.ride ∧ x.ride ≤ 1000000)) then 1 else 0
def rdsE (l : List Roa) : Int := if 2500 < l.length then 2 else firstAt (rdE l) l.length
def rdK (x : Roa) : Prop := x.a.length ≤ 2^40 ∧ x.b.length ≤ 2^40
def rdOk (l : List Roa) : Prop := l.length ≤ 2^40 ∧ ∀ x ∈ l, rdK x
-- shift.byEnds
theorem s204 (a b c d : List UInt8) : FSpec Tryz.prog 111 [.d (.str a), .d (.str b), .d (.str c), .d (.str d)] [] (fun x r => x = .d (.int .i64 (endsC a b c d)) ∧ r = []) := by
  refine spec_of hT (C := []) Tryz.func111 rfl Tryz.call111 rfl rfl rfl ?_
  conv => whnf
  repeat' (first
    | (refine CallX.exact (s184 _ _) rfl rfl ?_; rotate_right; conv => whnf)
    | (refine CallX.pure (s182 [_, _] (by simp)) ⟨SV.le_lit (by rfl) (by rfl), trivial⟩ rfl ?_; conv => whnf)
    | (refine br_intro (fun hb => ?_) (fun hb => ?_) <;> (try simp only [decide_eq_true_eq, decide_eq_false_iff_not, Bool.not_eq_true', Bool.not_eq_false', Bool.and_eq_true, Bool.or_eq_true, beq_iff_eq, not_and, Int.not_le, Int.not_lt, Int.toNat_natCast, beq_eq_false_iff_ne, ne_eq, eq_self, not_true_eq_false, not_false_eq_true] at hb) <;> (conv => whnf))
    | omega
    | (refine And.intro ?_ ?_; ((try dsimp only); first | omega | (refine ⟨by omega, by omega, Int.le_trans (Int.mul_le_mul_of_nonneg_right (Int.ofNat_le.2 (Nat.le_of_ble_eq_true (rfl : Nat.ble _ 1024 = true))) (by omega)) (by omega), by omega⟩) | (refine Nat.le_trans (Nat.mul_le_mul_left _ (Nat.le_of_ble_eq_true (rfl : Nat.ble _ 1024 = true))) ?_; omega) | (unfold inI64; omega) | (constructor <;> omega) | (simp only [inI64, List.length_cons, List.length_append, List.length_nil, List.length_set] at *; omega) | decide | (unfold inI64; decide)); conv => whnf)
    | omega | decide | assumption)
  refine .ret _ ?_
  conv => whnf
  refine ⟨[], ⟨?_, rfl⟩, trivial⟩
  conv => lhs; whnf
  rfl
-- shift.CheckNeeds
theorem s163 (l : List Ned) (hk : ndOk l) : FSpec Tryz.prog 22 [.d (neds l)] [] (fun x r => x = .d (.int .i64 (ndsE l)) ∧ r = []) := by
  refine spec_of hT (C := []) Tryz.func22 rfl Tryz.call22 rfl rfl rfl ?_
  conv => whnf
  refine br_intro (fun h0 => ?_) (fun h0 => ?_)
  · simp at h0
    conv => whnf
    refine .ret _ ?_
    conv => whnf
    refine ⟨[], ⟨?_, rfl⟩, trivial⟩
    conv => lhs; whnf
    unfold ndsE; rw [if_pos (by omega)]
  simp at h0
  conv => whnf
  refine LoopX.rule hT (C := []) (ι := Nat) (fun i => i ≤ l.length ∧ ∀ j, j < i → ndE l j = 0) (fun i => mkSt [(0, .d (neds l)), (8, .d (neds l)), (9, .d (.int .i64 l.length)), (10, .d (.int .i64 i))] []) (fun i => l.length - i) 0 ⟨by omega, by omega⟩ (by refine Entails.mk' [] rfl rfl ?_ ?_ <;> repeat' (first | exact True.intro | exact SV.le_refl _ | exact Res.le_refl _ | exact SV.le_int (by omega) | exact SV.le_any _ | refine And.intro ?_ ?_)) ?_
  rintro i ⟨p1, p2⟩
  have hx : (i : Int) < l.length → ndK (l.getD (i : Int).toNat nd0) := fun hi => hk.2 _ (getD_mem (by omega))
  have e1 : (i : Int).toNat = i := Int.toNat_natCast i
  have hbad : ∀ e : Int, i < l.length → e ≠ 0 → ndE l i = e → ndsE l = e := fun e h h1 h2 => by
    unfold ndsE; rw [if_neg (by omega)]
    exact firstAt_eq h p2 h1 h2
  conv => whnf
  repeat' (first
    | (refine CallX.exact (s108 _ (hx (by omega))) rfl rfl ?_; rotate_right; conv => whnf)
    | (refine CallX.exact (s119 _ _ _) rfl rfl ?_; rotate_right; conv => whnf)
    | (refine br_intro (fun hb => ?_) (fun hb => ?_) <;> (try simp only [decide_eq_true_eq, decide_eq_false_iff_not, Bool.not_eq_true', Bool.not_eq_false', Bool.and_eq_true, Bool.or_eq_true, beq_iff_eq, not_and, Int.not_le, Int.not_lt, Int.toNat_natCast, beq_eq_false_iff_ne, ne_eq, eq_self, not_true_eq_false, not_false_eq_true] at hb) <;> (conv => whnf))
    | (refine RegX.rule (id := 8) hT rfl [] [(0, []), (1, []), (2, []), (3, []), (4, []), (5, [3, 4]), (6, [3, 4, 5]), (7, [3, 4, 5]), (8, [3, 4]), (9, [3, 4]), (10, [3, 4]), (11, []), (12, []), (13, [])] (by decide +kernel) ?_; conv => whnf)
    | omega
    | (refine And.intro ?_ ?_; ((try dsimp only); first | omega | (refine ⟨by omega, by omega, Int.le_trans (Int.mul_le_mul_of_nonneg_right (Int.ofNat_le.2 (Nat.le_of_ble_eq_true (rfl : Nat.ble _ 1024 = true))) (by omega)) (by omega), by omega⟩) | (refine Nat.le_trans (Nat.mul_le_mul_left _ (Nat.le_of_ble_eq_true (rfl : Nat.ble _ 1024 = true))) ?_; omega) | (unfold inI64; omega) | (constructor <;> omega) | (simp only [inI64, List.length_cons, List.length_append, List.length_nil, List.length_set] at *; omega) | decide | (unfold inI64; decide)); conv => whnf)
    | omega | decide | assumption)
  all_goals first
    | (refine ⟨i + 1, ⟨by omega, first_step p2 (by clear p2 hbad hk hx; simp only [e1, toNat_pred] at *; unfold ndE strLe; grind)⟩, by omega, (by refine Entails.mk' [] rfl rfl ?_ ?_ <;> repeat' (first | exact True.intro | exact SV.le_refl _ | exact Res.le_refl _ | exact SV.le_int (by omega) | exact SV.le_any _ | refine And.intro ?_ ?_))⟩)
    | (refine .ret _ ?_
       conv => whnf
       refine ⟨[], ⟨?_, rfl⟩, trivial⟩
       conv => lhs; whnf
       congr 2
       first
         | exact (hbad _ (by omega) (by decide) (by clear p2 hbad hk hx; simp only [e1, toNat_pred] at *; unfold ndE strLe; grind)).symm
         | (have : i = l.length := by omega
            subst this
            unfold ndsE; rw [if_neg (by omega), firstAt_zero p2]))
-- shift.CheckRoads
theorem s164 (l : List Roa) (hk : rdOk l) : FSpec Tryz.prog 23 [.d (roas l)] [] (fun x r => x = .d (.int .i64 (rdsE l)) ∧ r = []) := by
  refine spec_of hT (C := []) Tryz.func23 rfl Tryz.call23 rfl rfl rfl ?_
  conv => whnf
  refine br_intro (fun h0 => ?_) (fun h0 => ?_)
  · simp at h0
    conv => whnf
    refine .ret _ ?_
    conv => whnf
    refine ⟨[], ⟨?_, rfl⟩, trivial⟩
    conv => lhs; whnf
    unfold rdsE; rw [if_pos (by omega)]
  simp at h0
  conv => whnf
  refine LoopX.rule hT (C := []) (ι := Nat) (fun i => i ≤ l.length ∧ ∀ j, j < i → rdE l j = 0) (fun i => mkSt [(0, .d (roas l)), (8, .d (roas l)), (9, .d (.int .i64 l.length)), (10, .d (.int .i64 i))] []) (fun i => l.length - i) 0 ⟨by omega, by omega⟩ (by refine Entails.mk' [] rfl rfl ?_ ?_ <;> repeat' (first | exact True.intro | exact SV.le_refl _ | exact Res.le_refl _ | exact SV.le_int (by omega) | exact SV.le_any _ | refine And.intro ?_ ?_)) ?_
  rintro i ⟨p1, p2⟩
  have hx : (i : Int) < l.length → rdK (l.getD (i : Int).toNat rd0) := fun hi => hk.2 _ (getD_mem (by omega))
  have e1 : (i : Int).toNat = i := Int.toNat_natCast i
  have hbad : ∀ e : Int, i < l.length → e ≠ 0 → rdE l i = e → rdsE l = e := fun e h h1 h2 => by
    unfold rdsE; rw [if_neg (by omega)]
    exact firstAt_eq h p2 h1 h2
  conv => whnf
  repeat' (first
    | (refine CallX.exact (s108 _ (hx (by omega)).1) rfl rfl ?_; rotate_right; conv => whnf)
    | (refine CallX.exact (s108 _ (hx (by omega)).2) rfl rfl ?_; rotate_right; conv => whnf)
    | (refine CallX.exact (s204 _ _ _ _) rfl rfl ?_; rotate_right; conv => whnf)
    | (refine CallX.exact (s119 _ _ _) rfl rfl ?_; rotate_right; conv => whnf)
    | (refine br_intro (fun hb => ?_) (fun hb => ?_) <;> (try simp only [decide_eq_true_eq, decide_eq_false_iff_not, Bool.not_eq_true', Bool.not_eq_false', Bool.and_eq_true, Bool.or_eq_true, beq_iff_eq, not_and, Int.not_le, Int.not_lt, Int.toNat_natCast, beq_eq_false_iff_ne, ne_eq, eq_self, not_true_eq_false, not_false_eq_true] at hb) <;> (conv => whnf))
    | (refine RegX.rule (id := 10) hT rfl [] [(0, []), (1, []), (2, []), (3, []), (4, [3]), (5, [3]), (6, []), (7, []), (8, []), (9, [3, 4, 5, 6, 7, 8]), (10, [3, 4, 5, 6, 7, 8, 9]), (11, [3, 4, 5, 6, 7, 8, 9]), (12, [3, 4, 5, 6, 7, 8]), (13, [3, 4, 5, 6, 7, 8]), (14, [3, 4, 5, 6, 7, 8]), (15, [3, 4, 5, 6, 7, 8, 9, 10, 11, 12, 13, 14]), (16, [3, 4, 5, 6, 7, 8, 9, 10, 11, 12, 13, 14]), (17, [3, 4, 5, 6, 7, 8, 9, 10, 11, 12, 13, 14, 15, 16]), (18, [3, 4, 5, 6, 7, 8, 9, 10, 11, 12, 13, 14, 15, 16]), (19, []), (20, []), (21, []), (22, [])] (by decide +kernel) ?_; conv => whnf)
    | omega
    | (refine And.intro ?_ ?_; ((try dsimp only); first | omega | (refine ⟨by omega, by omega, Int.le_trans (Int.mul_le_mul_of_nonneg_right (Int.ofNat_le.2 (Nat.le_of_ble_eq_true (rfl : Nat.ble _ 1024 = true))) (by omega)) (by omega), by omega⟩) | (refine Nat.le_trans (Nat.mul_le_mul_left _ (Nat.le_of_ble_eq_true (rfl : Nat.ble _ 1024 = true))) ?_; omega) | (unfold inI64; omega) | (constructor <;> omega) | (simp only [inI64, List.length_cons, List.length_append, List.length_nil, List.length_set] at *; omega) | decide | (unfold inI64; decide)); conv => whnf)
    | omega | decide | assumption)
  all_goals first
    | (refine ⟨i + 1, ⟨by omega, first_step p2 (by clear p2 hbad hk hx; simp only [e1, toNat_pred] at *; unfold rdE ; grind)⟩, by omega, (by refine Entails.mk' [] rfl rfl ?_ ?_ <;> repeat' (first | exact True.intro | exact SV.le_refl _ | exact Res.le_refl _ | exact SV.le_int (by omega) | exact SV.le_any _ | refine And.intro ?_ ?_))⟩)
    | (refine .ret _ ?_
       conv => whnf
       refine ⟨[], ⟨?_, rfl⟩, trivial⟩
       conv => lhs; whnf
       congr 2
       first
         | exact (hbad _ (by omega) (by decide) (by clear p2 hbad hk hx; simp only [e1, toNat_pred] at *; unfold rdE ; grind)).symm
         | (have : i = l.length := by omega
            subst this
            unfold rdsE; rw [if_neg (by omega), firstAt_zero p2]))
-- shift.checkTask
theorem s113 (l : List Ned) (m : List Roa) (hl : ndOk l) (hm : rdOk m) : FSpec Tryz.prog 168 [.d (neds l), .d (roas m)] [] (fun x r => x = .d (.int .i64 (firstE [ndsE l, rdsE m])) ∧ r = []) := by
  refine spec_of hT (C := []) Tryz.func168 rfl Tryz.call168 rfl rfl rfl ?_
  conv => whnf
  repeat' (first
    | (refine CallX.exact (s163 l hl) rfl rfl ?_; rotate_right; conv => whnf)
    | (refine CallX.exact (s164 m hm) rfl rfl ?_; rotate_right; conv => whnf)
    | (refine CallX.pure (s105 [_, _] (by simp)) ⟨SV.le_lit (by rfl) (by rfl), trivial⟩ rfl ?_; conv => whnf)
    | (refine br_intro (fun hb => ?_) (fun hb => ?_) <;> (try simp only [decide_eq_true_eq, decide_eq_false_iff_not, Bool.not_eq_true', Bool.not_eq_false', Bool.and_eq_true, Bool.or_eq_true, beq_iff_eq, not_and, Int.not_le, Int.not_lt, Int.toNat_natCast, beq_eq_false_iff_ne, ne_eq, eq_self, not_true_eq_false, not_false_eq_true] at hb) <;> (conv => whnf))
    | omega
    | (refine And.intro ?_ ?_; ((try dsimp only); first | omega | (refine ⟨by omega, by omega, Int.le_trans (Int.mul_le_mul_of_nonneg_right (Int.ofNat_le.2 (Nat.le_of_ble_eq_true (rfl : Nat.ble _ 1024 = true))) (by omega)) (by omega), by omega⟩) | (refine Nat.le_trans (Nat.mul_le_mul_left _ (Nat.le_of_ble_eq_true (rfl : Nat.ble _ 1024 = true))) ?_; omega) | (unfold inI64; omega) | (constructor <;> omega) | (simp only [inI64, List.length_cons, List.length_append, List.length_nil, List.length_set] at *; omega) | decide | (unfold inI64; decide)); conv => whnf)
    | omega | decide | assumption)
  refine .ret _ ?_
  conv => whnf
  refine ⟨[], ⟨?_, rfl⟩, trivial⟩
  conv => lhs; whnf
-- the program's own try
def tN : List Ned := [⟨[97], 1⟩, ⟨[98], -1⟩]
def tR : List Roa := [⟨[97], [98], 4, 0⟩]
theorem s113t : FSpec Tryz.prog 168 [.d (neds tN), .d (roas tR)] [] (fun x r => x = .d (.int .i64 0) ∧ r = []) := by
  have h := s113 tN tR ⟨by simp [tN], by intro x hx; simp [tN] at hx; rcases hx with rfl | rfl <;> simp [ndK]⟩ ⟨by simp [tR], by intro x hx; simp [tR] at hx; subst hx; simp [rdK]⟩
  rwa [show firstE [ndsE tN, rdsE tR] = 0 by decide] at h
end Go.Proofs.YtnkdlkgannnfhaaGreatDoor
set_option maxRecDepth 20000
namespace Go.Proofs.YtnkdlkgannnfhaaGreatDoor
open Go Go.Eng
def nHas (l : List Roa) : Nat → List DV → Bool
  | 0 => fun _ => false
  | n + 1 => fun q => keyEq q [.str (l.getD n rd0).a, .str (l.getD n rd0).b] || nHas l n q
def nVal (l : List Roa) : Nat → List DV → List DV
  | 0 => fun _ => [.str [], .str [], .int .i64 0, .int .i64 0]
  | n + 1 => fun q => bif keyEq q [.str (l.getD n rd0).a, .str (l.getD n rd0).b] then rdF (l.getD n rd0) else nVal l n q
abbrev netR (l : List Roa) (n : Nat) : Res := .map true true [.str, .str] [.str [], .str [], .int .i64 0, .int .i64 0] (nHas l n) (nVal l n)
-- shift.netOf
theorem s165 (l : List Roa) (hl : l.length ≤ 2^40) : FSpec Tryz.prog 117 [.d (roas l)] [] (fun y r => y = .mp 3 ∧ r = [(3, netR l l.length)]) := by
  refine spec_of hT (C := []) Tryz.func117 rfl Tryz.call117 rfl rfl rfl ?_
  conv => whnf
  refine LoopX.rule hT (C := []) (ι := Nat) (fun i => i ≤ l.length) (fun i => mkSt [(3, .mp 3), (7, .d (roas l)), (8, .d (.int .i64 l.length)), (9, .d (.int .i64 i))] [(3, netR l i)]) (fun i => l.length - i) 0 (by omega) ?_ ?_
  · exact Entails.mk' [(3, 6)] rfl rfl ⟨SV.le_refl _, SV.le_refl _, SV.le_refl _, SV.le_refl _, trivial⟩ ⟨Res.le_refl _, trivial⟩
  rintro i p1
  conv => whnf
  repeat' (first
    | (refine br_intro (fun hb => ?_) (fun hb => ?_) <;> (try simp only [decide_eq_true_eq, decide_eq_false_iff_not, Bool.not_eq_true', Bool.not_eq_false', Bool.and_eq_true, Bool.or_eq_true, beq_iff_eq, not_and, Int.not_le, Int.not_lt, Int.toNat_natCast, beq_eq_false_iff_ne, ne_eq, eq_self, not_true_eq_false, not_false_eq_true] at hb) <;> (conv => whnf))
    | omega
    | (refine And.intro ?_ ?_; ((try dsimp only); first | omega | (refine ⟨by omega, by omega, Int.le_trans (Int.mul_le_mul_of_nonneg_right (Int.ofNat_le.2 (Nat.le_of_ble_eq_true (rfl : Nat.ble _ 1024 = true))) (by omega)) (by omega), by omega⟩) | (refine Nat.le_trans (Nat.mul_le_mul_left _ (Nat.le_of_ble_eq_true (rfl : Nat.ble _ 1024 = true))) ?_; omega) | (unfold inI64; omega) | (constructor <;> omega) | (simp only [inI64, List.length_cons, List.length_append, List.length_nil, List.length_set] at *; omega) | decide | (unfold inI64; decide)); conv => whnf)
    | omega | decide | assumption)
  · exact ⟨i + 1, by omega, by omega, Entails.mk' [(3, 3)] rfl rfl ⟨SV.le_refl _, SV.le_refl _, SV.le_refl _, SV.le_refl _, trivial⟩ ⟨Res.le_refl _, trivial⟩⟩
  · have : i = l.length := by omega
    subst this
    refine .ret _ ?_
    conv => whnf
    exact ⟨_, ⟨rfl, rfl⟩, Res.le_refl _, trivial⟩
structure Arc where
  fr : Int
  to : Int
  car : Int
  flow : Int
def arF : Arc → List DV := fun s => [.int .i64 s.fr, .int .i64 s.to, .int .i64 s.car, .int .i64 s.flow]
def ar0 : Arc := ⟨0, 0, 0, 0⟩
abbrev froI (l : List Int) : Res := .fro 1 l.length (rowF iF 0 l)
abbrev arcB (l : List Arc) : Res := seqB 242 4 arF ar0 l
set_option maxHeartbeats 4000000 in
-- shift.transportOf, of the try
theorem s114t : FSpec Tryz.prog 169 [.d (neds tN), .d (roas tR)] [] (fun y r => y = .ptr 20 0 ∧ r = [(20, .cells 240 [.buf 15, .buf 18, .buf 88]), (15, froI [1, 0]), (18, froI [0, 1]), (88, arcB [⟨0, 1, 4, 0⟩])]) := by
  refine spec_of hT (C := []) Tryz.func169 rfl Tryz.call169 rfl rfl rfl ?_
  conv => whnf
  repeat' (first
    | (refine CallX.of (s165 tR (by simp [tR])) [(3, 22)] rfl ⟨SV.le_refl _, trivial⟩ trivial rfl rfl ?_; rintro x rout ⟨rfl, rfl⟩; refine ⟨rfl, ?_⟩; conv => whnf)
    | (refine LoopX.run hT (C := []) 8 rfl [0, 5, 6, 23, 24, 25] [] (fun _ _ h => h) (fun _ h => h) ?_; conv => whnf)
    | (refine LoopX.run hT (C := []) 16 rfl [0, 5, 6, 7, 8, 23, 24, 25, 49, 50, 51] [] (fun _ _ h => h) (fun _ h => h) ?_; conv => whnf)
    | (refine And.intro (rfl : zrow _ = some [.str [], .str [], .int .i64 0, .int .i64 0]) ?_; conv => whnf)
    | (refine br_intro (fun hb => ?_) (fun hb => ?_) <;> (try simp only [decide_eq_true_eq, decide_eq_false_iff_not, Bool.not_eq_true', Bool.not_eq_false', Bool.and_eq_true, Bool.or_eq_true, beq_iff_eq, not_and, Int.not_le, Int.not_lt, Int.toNat_natCast, beq_eq_false_iff_ne, ne_eq, eq_self, not_true_eq_false, not_false_eq_true] at hb) <;> (conv => whnf))
    | (refine RegX.rule (id := 1) hT rfl [] [(0, []), (1, []), (2, []), (3, [0, 1, 2]), (4, [0, 1, 2]), (5, [0, 1, 2]), (6, []), (7, []), (8, [])] (by decide +kernel) ?_; conv => whnf)
    | (refine RegX.rule (id := 6) hT rfl [] [(0, []), (1, []), (2, []), (3, []), (4, [0, 1, 2, 3]), (5, [0, 1, 2, 3, 4]), (6, [0, 1, 2, 3, 4]), (7, [0, 1, 2, 3, 4]), (8, [0, 1, 2, 3, 4]), (9, [0, 1, 2, 3, 4, 5, 6, 7, 8]), (10, [0, 1, 2, 3, 4, 5, 6, 7, 8, 9]), (11, [0, 1, 2, 3, 4, 5, 6, 7, 8, 9]), (12, [0, 1, 2, 3, 4, 5, 6, 7, 8, 9]), (13, [0, 1, 2, 3, 4, 5, 6, 7, 8, 9, 10, 11, 12]), (14, [0, 1, 2, 3, 4, 5, 6, 7, 8, 9, 10, 11, 12]), (15, [0, 1, 2, 3, 4, 5, 6, 7, 8, 9, 10, 11, 12]), (16, [0, 1, 2, 3, 4, 5, 6, 7, 8, 9, 10, 11, 12]), (17, [9, 13, 14, 15, 16]), (18, [9, 13, 14, 15, 16]), (19, []), (20, [])] (by decide +kernel) ?_; conv => whnf)
    | (refine RegX.rule (id := 12) hT rfl [] [(0, []), (1, [0]), (2, [0]), (3, [0]), (4, [0]), (5, [0, 1, 2, 3, 4]), (6, [0, 1, 2, 3, 4, 5]), (7, [0, 1, 2, 3, 4, 5, 6]), (8, [0, 1, 2, 3, 4, 5, 6]), (9, [0, 1, 2, 3, 4]), (10, [0, 1, 2, 3, 4]), (11, [0]), (12, []), (13, []), (14, [])] (by decide +kernel) ?_; conv => whnf)
    | omega
    | (refine And.intro ?_ ?_; ((try dsimp only); first | omega | (refine ⟨by omega, by omega, Int.le_trans (Int.mul_le_mul_of_nonneg_right (Int.ofNat_le.2 (Nat.le_of_ble_eq_true (rfl : Nat.ble _ 1024 = true))) (by omega)) (by omega), by omega⟩) | (refine Nat.le_trans (Nat.mul_le_mul_left _ (Nat.le_of_ble_eq_true (rfl : Nat.ble _ 1024 = true))) ?_; omega) | (unfold inI64; omega) | (constructor <;> omega) | (simp only [inI64, List.length_cons, List.length_append, List.length_nil, List.length_set] at *; omega) | decide | (unfold inI64; decide)); conv => whnf)
    | omega | decide | assumption)
  refine .freeze _ 15 3 1 _ _ rfl (.freeze _ 18 3 1 _ _ rfl (.ret _ ?_))
  conv => whnf
  refine ⟨_, ⟨rfl, rfl⟩, Res.le_refl _, Res.le_fro rfl ?_, Res.le_fro rfl ?_, Res.le_buf rfl ?_, trivial⟩
  · intro i hi
    have : i = 0 ∨ i = 1 := by simp [tN] at hi; omega
    rcases this with rfl | rfl <;> rfl
  · intro i hi
    have : i = 0 ∨ i = 1 := by simp [tN] at hi; omega
    rcases this with rfl | rfl <;> rfl
  · intro i hi
    have : i = 0 := by simp at hi; omega
    subst this; rfl
-- slices.Clone of numbers
theorem s166 (l : List Int) (hl : l.length ≤ 2^20) (h0 : 0 < l.length) : FSpec Tryz.prog 139 [.d (ints l)] [] (fun y r => y = .buf 7 ∧ r = [(7, seqB 3 1 iF 0 l)]) := by
  refine spec_of hT (C := [5]) Tryz.func139 rfl Tryz.call139 rfl rfl rfl ?_
  conv => whnf
  rintro b hbn
  conv => whnf
  repeat' (first
    | (refine br_intro (fun hb => ?_) (fun hb => ?_) <;> (try simp only [decide_eq_true_eq, decide_eq_false_iff_not, Bool.not_eq_true', Bool.not_eq_false', Bool.and_eq_true, Bool.or_eq_true, beq_iff_eq, not_and, Int.not_le, Int.not_lt, Int.toNat_natCast, beq_eq_false_iff_ne, ne_eq, eq_self, not_true_eq_false, not_false_eq_true] at hb) <;> (conv => whnf))
    | omega
    | (refine And.intro ?_ ?_; ((try dsimp only); first | omega | (refine ⟨by omega, by omega, Int.le_trans (Int.mul_le_mul_of_nonneg_right (Int.ofNat_le.2 (Nat.le_of_ble_eq_true (rfl : Nat.ble _ 1024 = true))) (by omega)) (by omega), by omega⟩) | (refine Nat.le_trans (Nat.mul_le_mul_left _ (Nat.le_of_ble_eq_true (rfl : Nat.ble _ 1024 = true))) ?_; omega) | (unfold inI64; omega) | (constructor <;> omega) | (simp only [inI64, List.length_cons, List.length_append, List.length_nil, List.length_set] at *; omega) | decide | (unfold inI64; decide)); conv => whnf)
    | omega | decide | assumption)
  · exact absurd (hbn (by assumption)) (by omega)
  · refine .ret _ ?_
    conv => whnf
    refine ⟨_, ⟨rfl, rfl⟩, Res.le_buf (by simp) (fun i hi => ?_), trivial⟩
    rw [appGet_ge (by omega)]; rfl
-- slices.Clone of no arcs
theorem s168e (g : Nat → List DV) : FSpec Tryz.prog 261 [.d (.ro 4 0 g)] [] (fun y r => y = .d (seqD 4 arF ar0 []) ∧ r = []) := by
  refine spec_of hT (C := [5]) Tryz.func261 rfl Tryz.call261 rfl rfl rfl ?_
  conv => whnf
  rintro b hbn
  conv => whnf
  repeat' (first
    | (refine br_intro (fun hb => ?_) (fun hb => ?_) <;> (try simp only [decide_eq_true_eq, decide_eq_false_iff_not, Bool.not_eq_true', Bool.not_eq_false', Bool.and_eq_true, Bool.or_eq_true, beq_iff_eq, not_and, Int.not_le, Int.not_lt, Int.toNat_natCast, beq_eq_false_iff_ne, ne_eq, eq_self, not_true_eq_false, not_false_eq_true] at hb) <;> (conv => whnf))
    | omega
    | (refine And.intro ?_ ?_; ((try dsimp only); first | omega | (refine ⟨by omega, by omega, Int.le_trans (Int.mul_le_mul_of_nonneg_right (Int.ofNat_le.2 (Nat.le_of_ble_eq_true (rfl : Nat.ble _ 1024 = true))) (by omega)) (by omega), by omega⟩) | (refine Nat.le_trans (Nat.mul_le_mul_left _ (Nat.le_of_ble_eq_true (rfl : Nat.ble _ 1024 = true))) ?_; omega) | (unfold inI64; omega) | (constructor <;> omega) | (simp only [inI64, List.length_cons, List.length_append, List.length_nil, List.length_set] at *; omega) | decide | (unfold inI64; decide)); conv => whnf)
    | omega | decide | assumption)
  · refine .weak _ ?_
    conv => whnf
    exact ⟨_, [], SV.le_nilS, ⟨rfl, rfl⟩, trivial⟩
  · refine .freeze _ 7 242 4 _ _ rfl (.weak _ ?_)
    conv => whnf
    exact ⟨_, [], SV.le_ro (by simp) (fun i hi => absurd hi (by simp)), ⟨rfl, rfl⟩, trivial⟩
end Go.Proofs.YtnkdlkgannnfhaaGreatDoor
set_option maxRecDepth 20000
namespace Go.Proofs.YtnkdlkgannnfhaaGreatDoor
open Go Go.Eng
def stF : Int × Bool → List DV := fun s => [.int .i64 s.1, .bool s.2]
abbrev steps (l : List (Int × Bool)) : DV := seqD 2 stF (0, false) l
abbrev tpC : Res := .cells 240 [.buf 1000001, .buf 1000002, .buf 1000003]
abbrev tpB (h w : List Int) (l : List Arc) : List (Nat × Res) := [(1000000, tpC), (1000001, froI h), (1000002, froI w), (1000003, arcB l)]
abbrev tpD (h w : List Int) : List (Nat × Res) := [(1000000, .cells 240 [.buf 1000001, .buf 1000002, .d (seqD 4 arF ar0 [])]), (1000001, froI h), (1000002, froI w)]
-- ways, of the try
set_option maxHeartbeats 4000000 in
theorem s167a : FSpec Tryz.prog 236 [.ptr 1000000 0, .buf 1000004] ([(1000004, seqB 3 1 iF 0 [1, 0])] ++ tpB [1, 0] [0, 1] [⟨0, 1, 4, 0⟩])
    (fun y r => y = .tup [.d (ints [0, 4]), .d (steps [(-1, false), (0, false)])] ∧ r = [(1000004, seqB 3 1 iF 0 [1, 0])] ++ tpB [1, 0] [0, 1] [⟨0, 1, 4, 0⟩]) := by
  refine spec_of hT (C := []) Tryz.func236 rfl Tryz.call236 rfl rfl rfl ?_
  conv => whnf
  repeat' (first
    | (refine LoopX.run hT (C := []) 6 rfl [0, 1, 4, 5, 23, 24] [1000000, 1000001, 1000002, 1000003, 1000004] (fun _ _ h => h) (fun _ h => h) ?_; conv => whnf)
    | (refine LoopX.run hT (C := []) 20 rfl [0, 4, 5, 7] [1000000, 1000001, 1000002, 1000003, 1000004] (fun _ _ h => h) (fun _ h => h) ?_; conv => whnf)
    | (refine LoopX.run hT (C := []) 26 rfl [0, 4, 5, 7, 47, 48, 49] [1000000, 1000001, 1000002, 1000003, 1000004] (fun _ _ h => h) (fun _ h => h) ?_; conv => whnf)
    | (refine br_intro (fun hb => ?_) (fun hb => ?_) <;> (try simp only [decide_eq_true_eq, decide_eq_false_iff_not, Bool.not_eq_true', Bool.not_eq_false', Bool.and_eq_true, Bool.or_eq_true, beq_iff_eq, not_and, Int.not_le, Int.not_lt, Int.toNat_natCast, beq_eq_false_iff_ne, ne_eq, eq_self, not_true_eq_false, not_false_eq_true] at hb) <;> (conv => whnf))
    | (refine RegX.rule (id := 1) hT rfl [] [(0, []), (1, []), (2, []), (3, []), (4, []), (5, []), (6, [0, 1, 2, 3, 4, 5]), (7, [0, 1, 2, 3, 4, 5]), (8, [0, 1, 2, 3, 4, 5]), (9, [0, 1, 2, 3, 4, 5]), (10, [0, 1, 2, 3, 4, 5]), (11, [0, 1, 2, 3, 4, 5]), (12, [6, 7, 8, 9, 10, 11]), (13, [])] (by decide +kernel) ?_; conv => whnf)
    | (refine RegX.rule (id := 15) hT rfl [] [(0, []), (1, [0]), (2, [0]), (3, []), (4, []), (5, []), (6, []), (7, []), (8, [7]), (9, [7]), (10, []), (11, []), (12, [7, 8, 9, 10, 11]), (13, [7, 8, 9, 10, 11]), (14, []), (15, [7, 8, 9, 10, 11, 12, 13, 14]), (16, [7, 8, 9, 10, 11, 12, 13, 14, 15]), (17, [7, 8, 9, 10, 11, 12, 13, 14, 15]), (18, [7, 8, 9, 10, 11, 12, 13, 14]), (19, [7, 8, 9, 10, 11, 12, 13, 14]), (20, []), (21, [])] (by decide +kernel) ?_; conv => whnf)
    | (refine RegX.rule (id := 16) hT rfl [] [(0, []), (1, [0]), (2, [0]), (3, [0, 1, 2]), (4, [0, 1, 2, 3]), (5, [0, 1, 2, 3]), (6, [0, 1, 2, 3, 4, 5]), (7, [0, 1, 2, 3, 4, 5, 6]), (8, [0, 1, 2, 3, 4, 5, 6]), (9, [0, 1, 2, 3, 4, 5]), (10, [0, 1, 2, 3, 4, 5]), (11, [0, 1, 2, 3, 4, 5, 6, 7, 8, 9, 10]), (12, [0, 1, 2, 3, 4, 5, 6, 7, 8, 9, 10]), (13, [0, 1, 2, 3, 4, 5]), (14, [0, 1, 2, 3, 4, 5, 6, 7, 8, 9, 10, 11, 12, 13]), (15, [0, 1, 2, 3, 4, 5, 6, 7, 8, 9, 10, 11, 12, 13]), (16, [3, 4, 5, 14, 15]), (17, [3, 4, 5, 14, 15]), (18, []), (19, []), (20, [])] (by decide +kernel) ?_; conv => whnf)
    | (refine RegX.rule (id := 17) hT rfl [] [(0, []), (1, []), (2, []), (3, []), (4, []), (5, [4]), (6, [4]), (7, []), (8, []), (9, []), (10, []), (11, []), (12, []), (13, [12]), (14, [12]), (15, []), (16, []), (17, [12, 13, 14, 15, 16]), (18, [12, 13, 14, 15, 16]), (19, []), (20, [12, 13, 14, 15, 16, 17, 18, 19]), (21, [12, 13, 14, 15, 16, 17, 18, 19, 20]), (22, [12, 13, 14, 15, 16, 17, 18, 19, 20]), (23, [12, 13, 14, 15, 16, 17, 18, 19]), (24, [12, 13, 14, 15, 16, 17, 18, 19]), (25, []), (26, [])] (by decide +kernel) ?_; conv => whnf)
    | (refine RegX.rule (id := 18) hT rfl [] [(0, []), (1, [0]), (2, [0]), (3, [0, 1, 2]), (4, [0, 1, 2, 3]), (5, [0, 1, 2, 3]), (6, [0, 1, 2, 3, 4, 5]), (7, [0, 1, 2, 3, 4, 5, 6]), (8, [0, 1, 2, 3, 4, 5, 6]), (9, [0, 1, 2, 3, 4, 5]), (10, [0, 1, 2, 3, 4, 5]), (11, [0, 1, 2, 3, 4, 5, 6, 7, 8, 9, 10]), (12, [0, 1, 2, 3, 4, 5, 6, 7, 8, 9, 10]), (13, [0, 1, 2, 3, 4, 5]), (14, [0, 1, 2, 3, 4, 5, 6, 7, 8, 9, 10, 11, 12, 13]), (15, [0, 1, 2, 3, 4, 5, 6, 7, 8, 9, 10, 11, 12, 13]), (16, [3, 4, 5, 14, 15]), (17, [3, 4, 5, 14, 15]), (18, []), (19, []), (20, [])] (by decide +kernel) ?_; conv => whnf)
    | omega
    | (refine And.intro ?_ ?_; ((try dsimp only); first | omega | (refine ⟨by omega, by omega, Int.le_trans (Int.mul_le_mul_of_nonneg_right (Int.ofNat_le.2 (Nat.le_of_ble_eq_true (rfl : Nat.ble _ 1024 = true))) (by omega)) (by omega), by omega⟩) | (refine Nat.le_trans (Nat.mul_le_mul_left _ (Nat.le_of_ble_eq_true (rfl : Nat.ble _ 1024 = true))) ?_; omega) | (unfold inI64; omega) | (constructor <;> omega) | (simp only [inI64, List.length_cons, List.length_append, List.length_nil, List.length_set] at *; omega) | decide | (unfold inI64; decide)); conv => whnf)
    | omega | decide | assumption)
  refine .freeze _ 15 3 1 _ _ rfl (.freeze _ 21 304 2 _ _ rfl (.weak _ ?_))
  conv => whnf
  refine ⟨.tup [.d (ints [0, 4]), .d (steps [(-1, false), (0, false)])], _, SV.le_tup ⟨SV.le_ro rfl ?_, SV.le_ro rfl ?_, trivial⟩, ⟨rfl, rfl⟩, ?_⟩
  · intro i hi
    have : i = 0 ∨ i = 1 := by simp at hi; omega
    rcases this with rfl | rfl <;> rfl
  · intro i hi
    have : i = 0 ∨ i = 1 := by simp at hi; omega
    rcases this with rfl | rfl <;> rfl
  · refine ⟨Res.le_refl _, Res.le_refl _, Res.le_refl _, Res.le_refl _, ?_⟩
    first | exact trivial | exact ⟨Res.le_refl _, trivial⟩
set_option maxHeartbeats 4000000 in
theorem s167b : FSpec Tryz.prog 236 [.ptr 1000000 0, .buf 1000004] ([(1000004, seqB 3 1 iF 0 [0, 0])] ++ tpB [1, 0] [0, 1] [⟨0, 1, 4, 1⟩])
    (fun y r => y = .tup [.d (ints [1125899906842624, 1125899906842624]), .d (steps [(-1, false), (-1, false)])] ∧ r = [(1000004, seqB 3 1 iF 0 [0, 0])] ++ tpB [1, 0] [0, 1] [⟨0, 1, 4, 1⟩]) := by
  refine spec_of hT (C := []) Tryz.func236 rfl Tryz.call236 rfl rfl rfl ?_
  conv => whnf
  repeat' (first
    | (refine LoopX.run hT (C := []) 6 rfl [0, 1, 4, 5, 23, 24] [1000000, 1000001, 1000002, 1000003, 1000004] (fun _ _ h => h) (fun _ h => h) ?_; conv => whnf)
    | (refine LoopX.run hT (C := []) 20 rfl [0, 4, 5, 7] [1000000, 1000001, 1000002, 1000003, 1000004] (fun _ _ h => h) (fun _ h => h) ?_; conv => whnf)
    | (refine LoopX.run hT (C := []) 26 rfl [0, 4, 5, 7, 47, 48, 49] [1000000, 1000001, 1000002, 1000003, 1000004] (fun _ _ h => h) (fun _ h => h) ?_; conv => whnf)
    | (refine br_intro (fun hb => ?_) (fun hb => ?_) <;> (try simp only [decide_eq_true_eq, decide_eq_false_iff_not, Bool.not_eq_true', Bool.not_eq_false', Bool.and_eq_true, Bool.or_eq_true, beq_iff_eq, not_and, Int.not_le, Int.not_lt, Int.toNat_natCast, beq_eq_false_iff_ne, ne_eq, eq_self, not_true_eq_false, not_false_eq_true] at hb) <;> (conv => whnf))
    | (refine RegX.rule (id := 1) hT rfl [] [(0, []), (1, []), (2, []), (3, []), (4, []), (5, []), (6, [0, 1, 2, 3, 4, 5]), (7, [0, 1, 2, 3, 4, 5]), (8, [0, 1, 2, 3, 4, 5]), (9, [0, 1, 2, 3, 4, 5]), (10, [0, 1, 2, 3, 4, 5]), (11, [0, 1, 2, 3, 4, 5]), (12, [6, 7, 8, 9, 10, 11]), (13, [])] (by decide +kernel) ?_; conv => whnf)
    | (refine RegX.rule (id := 15) hT rfl [] [(0, []), (1, [0]), (2, [0]), (3, []), (4, []), (5, []), (6, []), (7, []), (8, [7]), (9, [7]), (10, []), (11, []), (12, [7, 8, 9, 10, 11]), (13, [7, 8, 9, 10, 11]), (14, []), (15, [7, 8, 9, 10, 11, 12, 13, 14]), (16, [7, 8, 9, 10, 11, 12, 13, 14, 15]), (17, [7, 8, 9, 10, 11, 12, 13, 14, 15]), (18, [7, 8, 9, 10, 11, 12, 13, 14]), (19, [7, 8, 9, 10, 11, 12, 13, 14]), (20, []), (21, [])] (by decide +kernel) ?_; conv => whnf)
    | (refine RegX.rule (id := 16) hT rfl [] [(0, []), (1, [0]), (2, [0]), (3, [0, 1, 2]), (4, [0, 1, 2, 3]), (5, [0, 1, 2, 3]), (6, [0, 1, 2, 3, 4, 5]), (7, [0, 1, 2, 3, 4, 5, 6]), (8, [0, 1, 2, 3, 4, 5, 6]), (9, [0, 1, 2, 3, 4, 5]), (10, [0, 1, 2, 3, 4, 5]), (11, [0, 1, 2, 3, 4, 5, 6, 7, 8, 9, 10]), (12, [0, 1, 2, 3, 4, 5, 6, 7, 8, 9, 10]), (13, [0, 1, 2, 3, 4, 5]), (14, [0, 1, 2, 3, 4, 5, 6, 7, 8, 9, 10, 11, 12, 13]), (15, [0, 1, 2, 3, 4, 5, 6, 7, 8, 9, 10, 11, 12, 13]), (16, [3, 4, 5, 14, 15]), (17, [3, 4, 5, 14, 15]), (18, []), (19, []), (20, [])] (by decide +kernel) ?_; conv => whnf)
    | (refine RegX.rule (id := 17) hT rfl [] [(0, []), (1, []), (2, []), (3, []), (4, []), (5, [4]), (6, [4]), (7, []), (8, []), (9, []), (10, []), (11, []), (12, []), (13, [12]), (14, [12]), (15, []), (16, []), (17, [12, 13, 14, 15, 16]), (18, [12, 13, 14, 15, 16]), (19, []), (20, [12, 13, 14, 15, 16, 17, 18, 19]), (21, [12, 13, 14, 15, 16, 17, 18, 19, 20]), (22, [12, 13, 14, 15, 16, 17, 18, 19, 20]), (23, [12, 13, 14, 15, 16, 17, 18, 19]), (24, [12, 13, 14, 15, 16, 17, 18, 19]), (25, []), (26, [])] (by decide +kernel) ?_; conv => whnf)
    | (refine RegX.rule (id := 18) hT rfl [] [(0, []), (1, [0]), (2, [0]), (3, [0, 1, 2]), (4, [0, 1, 2, 3]), (5, [0, 1, 2, 3]), (6, [0, 1, 2, 3, 4, 5]), (7, [0, 1, 2, 3, 4, 5, 6]), (8, [0, 1, 2, 3, 4, 5, 6]), (9, [0, 1, 2, 3, 4, 5]), (10, [0, 1, 2, 3, 4, 5]), (11, [0, 1, 2, 3, 4, 5, 6, 7, 8, 9, 10]), (12, [0, 1, 2, 3, 4, 5, 6, 7, 8, 9, 10]), (13, [0, 1, 2, 3, 4, 5]), (14, [0, 1, 2, 3, 4, 5, 6, 7, 8, 9, 10, 11, 12, 13]), (15, [0, 1, 2, 3, 4, 5, 6, 7, 8, 9, 10, 11, 12, 13]), (16, [3, 4, 5, 14, 15]), (17, [3, 4, 5, 14, 15]), (18, []), (19, []), (20, [])] (by decide +kernel) ?_; conv => whnf)
    | omega
    | (refine And.intro ?_ ?_; ((try dsimp only); first | omega | (refine ⟨by omega, by omega, Int.le_trans (Int.mul_le_mul_of_nonneg_right (Int.ofNat_le.2 (Nat.le_of_ble_eq_true (rfl : Nat.ble _ 1024 = true))) (by omega)) (by omega), by omega⟩) | (refine Nat.le_trans (Nat.mul_le_mul_left _ (Nat.le_of_ble_eq_true (rfl : Nat.ble _ 1024 = true))) ?_; omega) | (unfold inI64; omega) | (constructor <;> omega) | (simp only [inI64, List.length_cons, List.length_append, List.length_nil, List.length_set] at *; omega) | decide | (unfold inI64; decide)); conv => whnf)
    | omega | decide | assumption)
  refine .freeze _ 15 3 1 _ _ rfl (.freeze _ 21 304 2 _ _ rfl (.weak _ ?_))
  conv => whnf
  refine ⟨.tup [.d (ints [1125899906842624, 1125899906842624]), .d (steps [(-1, false), (-1, false)])], _, SV.le_tup ⟨SV.le_ro rfl ?_, SV.le_ro rfl ?_, trivial⟩, ⟨rfl, rfl⟩, ?_⟩
  · intro i hi
    have : i = 0 ∨ i = 1 := by simp at hi; omega
    rcases this with rfl | rfl <;> rfl
  · intro i hi
    have : i = 0 ∨ i = 1 := by simp at hi; omega
    rcases this with rfl | rfl <;> rfl
  · refine ⟨Res.le_refl _, Res.le_refl _, Res.le_refl _, Res.le_refl _, ?_⟩
    first | exact trivial | exact ⟨Res.le_refl _, trivial⟩
set_option maxHeartbeats 4000000 in
theorem s167c : FSpec Tryz.prog 236 [.ptr 1000000 0, .buf 1000004] ([(1000004, seqB 3 1 iF 0 [0, 0])] ++ tpD [0, 0] [0, 0])
    (fun y r => y = .tup [.d (ints [1125899906842624, 1125899906842624]), .d (steps [(-1, false), (-1, false)])] ∧ r = [(1000004, seqB 3 1 iF 0 [0, 0])] ++ tpD [0, 0] [0, 0]) := by
  refine spec_of hT (C := []) Tryz.func236 rfl Tryz.call236 rfl rfl rfl ?_
  conv => whnf
  repeat' (first
    | (refine LoopX.run hT (C := []) 6 rfl [0, 1, 4, 5, 23, 24] [1000000, 1000001, 1000002, 1000004] (fun _ _ h => h) (fun _ h => h) ?_; conv => whnf)
    | (refine LoopX.run hT (C := []) 20 rfl [0, 4, 5, 7] [1000000, 1000001, 1000002, 1000004] (fun _ _ h => h) (fun _ h => h) ?_; conv => whnf)
    | (refine LoopX.run hT (C := []) 26 rfl [0, 4, 5, 7, 47, 48, 49] [1000000, 1000001, 1000002, 1000004] (fun _ _ h => h) (fun _ h => h) ?_; conv => whnf)
    | (refine br_intro (fun hb => ?_) (fun hb => ?_) <;> (try simp only [decide_eq_true_eq, decide_eq_false_iff_not, Bool.not_eq_true', Bool.not_eq_false', Bool.and_eq_true, Bool.or_eq_true, beq_iff_eq, not_and, Int.not_le, Int.not_lt, Int.toNat_natCast, beq_eq_false_iff_ne, ne_eq, eq_self, not_true_eq_false, not_false_eq_true] at hb) <;> (conv => whnf))
    | (refine RegX.rule (id := 1) hT rfl [] [(0, []), (1, []), (2, []), (3, []), (4, []), (5, []), (6, [0, 1, 2, 3, 4, 5]), (7, [0, 1, 2, 3, 4, 5]), (8, [0, 1, 2, 3, 4, 5]), (9, [0, 1, 2, 3, 4, 5]), (10, [0, 1, 2, 3, 4, 5]), (11, [0, 1, 2, 3, 4, 5]), (12, [6, 7, 8, 9, 10, 11]), (13, [])] (by decide +kernel) ?_; conv => whnf)
    | (refine RegX.rule (id := 15) hT rfl [] [(0, []), (1, [0]), (2, [0]), (3, []), (4, []), (5, []), (6, []), (7, []), (8, [7]), (9, [7]), (10, []), (11, []), (12, [7, 8, 9, 10, 11]), (13, [7, 8, 9, 10, 11]), (14, []), (15, [7, 8, 9, 10, 11, 12, 13, 14]), (16, [7, 8, 9, 10, 11, 12, 13, 14, 15]), (17, [7, 8, 9, 10, 11, 12, 13, 14, 15]), (18, [7, 8, 9, 10, 11, 12, 13, 14]), (19, [7, 8, 9, 10, 11, 12, 13, 14]), (20, []), (21, [])] (by decide +kernel) ?_; conv => whnf)
    | (refine RegX.rule (id := 16) hT rfl [] [(0, []), (1, [0]), (2, [0]), (3, [0, 1, 2]), (4, [0, 1, 2, 3]), (5, [0, 1, 2, 3]), (6, [0, 1, 2, 3, 4, 5]), (7, [0, 1, 2, 3, 4, 5, 6]), (8, [0, 1, 2, 3, 4, 5, 6]), (9, [0, 1, 2, 3, 4, 5]), (10, [0, 1, 2, 3, 4, 5]), (11, [0, 1, 2, 3, 4, 5, 6, 7, 8, 9, 10]), (12, [0, 1, 2, 3, 4, 5, 6, 7, 8, 9, 10]), (13, [0, 1, 2, 3, 4, 5]), (14, [0, 1, 2, 3, 4, 5, 6, 7, 8, 9, 10, 11, 12, 13]), (15, [0, 1, 2, 3, 4, 5, 6, 7, 8, 9, 10, 11, 12, 13]), (16, [3, 4, 5, 14, 15]), (17, [3, 4, 5, 14, 15]), (18, []), (19, []), (20, [])] (by decide +kernel) ?_; conv => whnf)
    | (refine RegX.rule (id := 17) hT rfl [] [(0, []), (1, []), (2, []), (3, []), (4, []), (5, [4]), (6, [4]), (7, []), (8, []), (9, []), (10, []), (11, []), (12, []), (13, [12]), (14, [12]), (15, []), (16, []), (17, [12, 13, 14, 15, 16]), (18, [12, 13, 14, 15, 16]), (19, []), (20, [12, 13, 14, 15, 16, 17, 18, 19]), (21, [12, 13, 14, 15, 16, 17, 18, 19, 20]), (22, [12, 13, 14, 15, 16, 17, 18, 19, 20]), (23, [12, 13, 14, 15, 16, 17, 18, 19]), (24, [12, 13, 14, 15, 16, 17, 18, 19]), (25, []), (26, [])] (by decide +kernel) ?_; conv => whnf)
    | (refine RegX.rule (id := 18) hT rfl [] [(0, []), (1, [0]), (2, [0]), (3, [0, 1, 2]), (4, [0, 1, 2, 3]), (5, [0, 1, 2, 3]), (6, [0, 1, 2, 3, 4, 5]), (7, [0, 1, 2, 3, 4, 5, 6]), (8, [0, 1, 2, 3, 4, 5, 6]), (9, [0, 1, 2, 3, 4, 5]), (10, [0, 1, 2, 3, 4, 5]), (11, [0, 1, 2, 3, 4, 5, 6, 7, 8, 9, 10]), (12, [0, 1, 2, 3, 4, 5, 6, 7, 8, 9, 10]), (13, [0, 1, 2, 3, 4, 5]), (14, [0, 1, 2, 3, 4, 5, 6, 7, 8, 9, 10, 11, 12, 13]), (15, [0, 1, 2, 3, 4, 5, 6, 7, 8, 9, 10, 11, 12, 13]), (16, [3, 4, 5, 14, 15]), (17, [3, 4, 5, 14, 15]), (18, []), (19, []), (20, [])] (by decide +kernel) ?_; conv => whnf)
    | omega
    | (refine And.intro ?_ ?_; ((try dsimp only); first | omega | (refine ⟨by omega, by omega, Int.le_trans (Int.mul_le_mul_of_nonneg_right (Int.ofNat_le.2 (Nat.le_of_ble_eq_true (rfl : Nat.ble _ 1024 = true))) (by omega)) (by omega), by omega⟩) | (refine Nat.le_trans (Nat.mul_le_mul_left _ (Nat.le_of_ble_eq_true (rfl : Nat.ble _ 1024 = true))) ?_; omega) | (unfold inI64; omega) | (constructor <;> omega) | (simp only [inI64, List.length_cons, List.length_append, List.length_nil, List.length_set] at *; omega) | decide | (unfold inI64; decide)); conv => whnf)
    | omega | decide | assumption)
  refine .freeze _ 15 3 1 _ _ rfl (.freeze _ 21 304 2 _ _ rfl (.weak _ ?_))
  conv => whnf
  refine ⟨.tup [.d (ints [1125899906842624, 1125899906842624]), .d (steps [(-1, false), (-1, false)])], _, SV.le_tup ⟨SV.le_ro rfl ?_, SV.le_ro rfl ?_, trivial⟩, ⟨rfl, rfl⟩, ?_⟩
  · intro i hi
    have : i = 0 ∨ i = 1 := by simp at hi; omega
    rcases this with rfl | rfl <;> rfl
  · intro i hi
    have : i = 0 ∨ i = 1 := by simp at hi; omega
    rcases this with rfl | rfl <;> rfl
  · refine ⟨Res.le_refl _, Res.le_refl _, Res.le_refl _, Res.le_refl _, ?_⟩
    first | exact trivial | exact ⟨Res.le_refl _, trivial⟩
-- rest, of the try
set_option maxHeartbeats 4000000 in
theorem s116t : FSpec Tryz.prog 207 [.ptr 1000000 0, .d (.int .i64 1), .d (.int .i64 0), .d (.int .i64 1), .d (.int .i64 1)] [(1000000, tpC), (1000001, froI [1, 0]), (1000002, froI [0, 1]), (1000003, .fro 4 1 (rowF arF ar0 [⟨0, 1, 4, 1⟩]))]
    (fun y r => y = .ptr 30 0 ∧ r = [(1000000, tpC), (1000001, froI [1, 0]), (1000002, froI [0, 1]), (1000003, .fro 4 1 (rowF arF ar0 [⟨0, 1, 4, 1⟩])), (30, .cells 240 [.buf 16, .buf 21, .d (seqD 4 arF ar0 [])]), (16, froI [0, 0]), (21, froI [0, 0])]) := by
  refine spec_of hT (C := []) Tryz.func207 rfl Tryz.call207 rfl rfl rfl ?_
  conv => whnf
  refine RegX.rule hT rfl [] [(0, []), (1, []), (2, []), (3, []), (5, [0, 1, 2, 3]), (6, [0, 1, 2, 3]), (7, [0, 1, 2, 3]), (8, [0, 1, 2, 3]), (10, [0, 1, 2, 3, 5, 6, 7, 8]), (11, [0, 1, 2, 3, 5, 6, 7, 8]), (12, [0, 1, 2, 3, 5, 6, 7, 8]), (13, [0, 1, 2, 3, 5, 6, 7, 8]), (14, [0, 1, 2, 3, 5, 6, 7, 8, 10, 11, 12, 13]), (15, [0, 1, 2, 3, 5, 6, 7, 8]), (4, [5, 6, 7, 8, 10, 11, 12, 13, 14, 15]), (9, [10, 11, 12, 13, 14, 15]), (16, []), (17, []), (18, []), (19, [])] (by decide +kernel) ?_
  conv => whnf
  repeat' (first
    | (refine CallX.of (s166 [1, 0] (by simp) (by simp)) [(7, 16)] rfl ⟨SV.le_refl _, trivial⟩ trivial rfl rfl ?_; rintro x rout ⟨rfl, rfl⟩; refine ⟨rfl, ?_⟩; conv => whnf)
    | (refine CallX.of (s166 [0, 1] (by simp) (by simp)) [(7, 21)] rfl ⟨SV.le_refl _, trivial⟩ trivial rfl rfl ?_; rintro x rout ⟨rfl, rfl⟩; refine ⟨rfl, ?_⟩; conv => whnf)
    | (refine CallX.pure (s168e _) ⟨SV.le_refl _, trivial⟩ rfl ?_; conv => whnf)
    | (refine br_intro (fun hb => ?_) (fun hb => ?_) <;> (try simp only [decide_eq_true_eq, decide_eq_false_iff_not, Bool.not_eq_true', Bool.not_eq_false', Bool.and_eq_true, Bool.or_eq_true, beq_iff_eq, not_and, Int.not_le, Int.not_lt, Int.toNat_natCast, beq_eq_false_iff_ne, ne_eq, eq_self, not_true_eq_false, not_false_eq_true] at hb) <;> (conv => whnf))
    | (refine RegX.rule (id := 1) hT rfl [] [(0, []), (1, []), (2, []), (3, []), (5, [0, 1, 2, 3]), (6, [0, 1, 2, 3]), (7, [0, 1, 2, 3]), (8, [0, 1, 2, 3]), (10, [0, 1, 2, 3, 5, 6, 7, 8]), (11, [0, 1, 2, 3, 5, 6, 7, 8]), (12, [0, 1, 2, 3, 5, 6, 7, 8]), (13, [0, 1, 2, 3, 5, 6, 7, 8]), (14, [0, 1, 2, 3, 5, 6, 7, 8, 10, 11, 12, 13]), (15, [0, 1, 2, 3, 5, 6, 7, 8]), (4, [5, 6, 7, 8, 10, 11, 12, 13, 14, 15]), (9, [10, 11, 12, 13, 14, 15]), (16, []), (17, []), (18, []), (19, [])] (by decide +kernel) ?_; conv => whnf)
    | omega
    | (refine And.intro ?_ ?_; ((try dsimp only); first | omega | (refine ⟨by omega, by omega, Int.le_trans (Int.mul_le_mul_of_nonneg_right (Int.ofNat_le.2 (Nat.le_of_ble_eq_true (rfl : Nat.ble _ 1024 = true))) (by omega)) (by omega), by omega⟩) | (refine Nat.le_trans (Nat.mul_le_mul_left _ (Nat.le_of_ble_eq_true (rfl : Nat.ble _ 1024 = true))) ?_; omega) | (unfold inI64; omega) | (constructor <;> omega) | (simp only [inI64, List.length_cons, List.length_append, List.length_nil, List.length_set] at *; omega) | decide | (unfold inI64; decide)); conv => whnf)
    | omega | decide | assumption)
  refine .freeze _ 16 3 1 _ _ rfl (.freeze _ 21 3 1 _ _ rfl (.ret _ ?_))
  conv => whnf
  refine ⟨_, ⟨rfl, rfl⟩, Res.le_refl _, Res.le_refl _, Res.le_refl _, Res.le_refl _, Res.le_refl _, Res.le_fro rfl ?_, Res.le_fro rfl ?_, trivial⟩
  · intro i hi
    have : i = 0 ∨ i = 1 := by simp at hi; omega
    rcases this with rfl | rfl <;> rfl
  · intro i hi
    have : i = 0 ∨ i = 1 := by simp at hi; omega
    rcases this with rfl | rfl <;> rfl
end Go.Proofs.YtnkdlkgannnfhaaGreatDoor
set_option maxRecDepth 20000
namespace Go.Proofs.YtnkdlkgannnfhaaGreatDoor
open Go Go.Eng
-- solve, of the try
set_option maxHeartbeats 8000000 in
theorem s115a : FSpec Tryz.prog 170 [.ptr 1000000 0] (tpB [1, 0] [0, 1] [⟨0, 1, 4, 0⟩]) (fun y r => y = .tup [.d (.int .i64 4), .d (.bool true)] ∧ r = tpB [1, 0] [0, 1] [⟨0, 1, 4, 1⟩]) := by
  refine spec_of hT (C := []) Tryz.func170 rfl Tryz.call170 rfl rfl rfl ?_
  conv => whnf
  refine RegX.rule hT rfl [] [(0, []), (1, []), (2, []), (3, []), (5, [0, 1, 2, 3]), (6, [0, 1, 2, 3]), (7, [0, 1, 2, 3]), (8, [0, 1, 2, 3]), (4, [5, 6, 7, 8]), (9, []), (10, []), (11, [])] (by decide +kernel) ?_
  conv => whnf
  repeat' (first
    | (refine CallX.of (s166 [1, 0] (by simp) (by simp)) [(7, 22)] rfl ⟨SV.le_refl _, trivial⟩ trivial rfl rfl ?_; rintro x rout ⟨rfl, rfl⟩; refine ⟨rfl, ?_⟩; conv => whnf)
    | (refine CallX.of (s166 [0, 1] (by simp) (by simp)) [(7, 27)] rfl ⟨SV.le_refl _, trivial⟩ trivial rfl rfl ?_; rintro x rout ⟨rfl, rfl⟩; refine ⟨rfl, ?_⟩; conv => whnf)
    | (refine CallX.of s167a [(1000000, 1000000), (1000001, 1000001), (1000002, 1000002), (1000003, 1000003), (1000004, 22)] rfl ⟨SV.le_refl _, SV.le_refl _, trivial⟩ ⟨(Res.le_buf rfl (fun i hi => by (have : i = 0 ∨ i = 1 := by simp at hi; omega); rcases this with (rfl | rfl) <;> rfl)), Res.le_refl _, Res.le_refl _, Res.le_refl _, (Res.le_buf rfl (fun i hi => by (have : i = 0 := by simp at hi; omega); subst this; rfl)), trivial⟩ rfl rfl ?_; rintro x rout ⟨rfl, rfl⟩; refine ⟨rfl, ?_⟩; conv => whnf)
    | (refine CallX.of s167b [(1000000, 1000000), (1000001, 1000001), (1000002, 1000002), (1000003, 1000003), (1000004, 22)] rfl ⟨SV.le_refl _, SV.le_refl _, trivial⟩ ⟨(Res.le_buf rfl (fun i hi => by (have : i = 0 ∨ i = 1 := by simp at hi; omega); rcases this with (rfl | rfl) <;> rfl)), Res.le_refl _, Res.le_refl _, Res.le_refl _, (Res.le_buf rfl (fun i hi => by (have : i = 0 := by simp at hi; omega); subst this; rfl)), trivial⟩ rfl rfl ?_; rintro x rout ⟨rfl, rfl⟩; refine ⟨rfl, ?_⟩; conv => whnf)
    | (refine LoopX.run hT (C := []) 6 rfl [0, 4, 5, 32, 33] [1000000, 1000001, 1000002, 1000003] (fun _ _ h => h) (fun _ h => h) ?_; conv => whnf)
    | (refine LoopX.run hT (C := []) 7 rfl [0, 4, 5, 7] [1000000, 1000001, 1000002, 1000003] (fun _ _ h => h) (fun _ h => h) ?_; conv => whnf)
    | (refine LoopX.run hT (C := []) 22 rfl [0, 4, 5, 7, 8, 9, 10, 11, 50, 51, 52] [1000000, 1000001, 1000002, 1000003] (fun _ _ h => h) (fun _ h => h) ?_; conv => whnf)
    | (refine LoopX.run hT (C := []) 40 rfl [0, 4, 5, 7, 8, 9, 10, 14, 15] [1000000, 1000001, 1000002, 1000003] (fun _ _ h => h) (fun _ h => h) ?_; conv => whnf)
    | (refine LoopX.run hT (C := []) 60 rfl [0, 4, 5, 7, 9, 14, 15] [1000000, 1000001, 1000002, 1000003] (fun _ _ h => h) (fun _ h => h) ?_; conv => whnf)
    | (refine br_intro (fun hb => ?_) (fun hb => ?_) <;> (try simp only [decide_eq_true_eq, decide_eq_false_iff_not, Bool.not_eq_true', Bool.not_eq_false', Bool.and_eq_true, Bool.or_eq_true, beq_iff_eq, not_and, Int.not_le, Int.not_lt, Int.toNat_natCast, beq_eq_false_iff_ne, ne_eq, eq_self, not_true_eq_false, not_false_eq_true] at hb) <;> (conv => whnf))
    | (refine RegX.rule (id := 1) hT rfl [] [(0, []), (1, []), (2, []), (3, []), (5, [0, 1, 2, 3]), (6, [0, 1, 2, 3]), (7, [0, 1, 2, 3]), (8, [0, 1, 2, 3]), (4, [5, 6, 7, 8]), (9, []), (10, []), (11, [])] (by decide +kernel) ?_; conv => whnf)
    | (refine RegX.rule (id := 14) hT rfl [] [(0, []), (1, []), (2, []), (3, []), (4, [3]), (5, []), (6, []), (7, []), (8, []), (9, []), (10, []), (11, []), (12, []), (13, []), (14, [13]), (15, []), (16, []), (17, [13, 14, 15, 16]), (18, [13, 14, 15, 16, 17]), (19, [13, 14, 15, 16]), (20, [13, 14, 15, 16]), (21, []), (22, []), (23, [])] (by decide +kernel) ?_; conv => whnf)
    | (refine RegX.rule (id := 21) hT rfl [] [(0, []), (1, []), (2, []), (3, []), (4, [0, 1, 2, 3]), (5, [0, 1, 2, 3, 4]), (6, [0, 1, 2, 3]), (7, [0, 1, 2, 3]), (8, [0, 1, 2, 3]), (9, []), (10, []), (11, [0, 1, 2, 3, 4, 5, 6, 7, 8, 9, 10]), (12, [])] (by decide +kernel) ?_; conv => whnf)
    | (refine RegX.rule (id := 23) hT rfl [] [(0, []), (1, [0]), (2, [0]), (3, []), (4, [0, 1, 2, 3]), (5, [0, 1, 2, 3]), (6, [4, 5]), (7, [])] (by decide +kernel) ?_; conv => whnf)
    | (refine RegX.rule (id := 31) hT rfl [] [(0, []), (1, []), (2, []), (3, []), (4, [0, 1, 2, 3]), (5, [0, 1, 2, 3, 4]), (6, [0, 1, 2, 3]), (7, [0, 1, 2, 3]), (8, [0, 1, 2, 3]), (9, []), (10, [])] (by decide +kernel) ?_; conv => whnf)
    | omega
    | (refine And.intro ?_ ?_; ((try dsimp only); first | omega | (refine ⟨by omega, by omega, Int.le_trans (Int.mul_le_mul_of_nonneg_right (Int.ofNat_le.2 (Nat.le_of_ble_eq_true (rfl : Nat.ble _ 1024 = true))) (by omega)) (by omega), by omega⟩) | (refine Nat.le_trans (Nat.mul_le_mul_left _ (Nat.le_of_ble_eq_true (rfl : Nat.ble _ 1024 = true))) ?_; omega) | (unfold inI64; omega) | (constructor <;> omega) | (simp only [inI64, List.length_cons, List.length_append, List.length_nil, List.length_set] at *; omega) | decide | (unfold inI64; decide)); conv => whnf)
    | omega | decide | assumption)
  refine .weak _ ?_
  conv => whnf
  exact ⟨.tup [.d (.int .i64 4), .d (.bool true)], _, SV.le_tup ⟨SV.le_int rfl, SV.le_bool rfl, trivial⟩, ⟨rfl, rfl⟩, Res.le_refl _, Res.le_refl _, Res.le_refl _, (Res.le_buf rfl (fun i hi => by (have : i = 0 := by simp at hi; omega); subst this; rfl)), trivial⟩
set_option maxHeartbeats 8000000 in
theorem s115b : FSpec Tryz.prog 170 [.ptr 1000000 0] (tpD [0, 0] [0, 0]) (fun y r => y = .tup [.d (.int .i64 0), .d (.bool true)] ∧ r = tpD [0, 0] [0, 0]) := by
  refine spec_of hT (C := []) Tryz.func170 rfl Tryz.call170 rfl rfl rfl ?_
  conv => whnf
  refine RegX.rule hT rfl [] [(0, []), (1, []), (2, []), (3, []), (5, [0, 1, 2, 3]), (6, [0, 1, 2, 3]), (7, [0, 1, 2, 3]), (8, [0, 1, 2, 3]), (4, [5, 6, 7, 8]), (9, []), (10, []), (11, [])] (by decide +kernel) ?_
  conv => whnf
  repeat' (first
    | (refine CallX.of (s166 [0, 0] (by simp) (by simp)) [(7, 22)] rfl ⟨SV.le_refl _, trivial⟩ trivial rfl rfl ?_; rintro x rout ⟨rfl, rfl⟩; refine ⟨rfl, ?_⟩; conv => whnf)
    | (refine CallX.of (s166 [0, 0] (by simp) (by simp)) [(7, 27)] rfl ⟨SV.le_refl _, trivial⟩ trivial rfl rfl ?_; rintro x rout ⟨rfl, rfl⟩; refine ⟨rfl, ?_⟩; conv => whnf)
    | (refine CallX.of s167c [(1000000, 1000000), (1000001, 1000001), (1000002, 1000002), (1000004, 22)] rfl ⟨SV.le_refl _, SV.le_refl _, trivial⟩ ⟨Res.le_refl _, Res.le_refl _, Res.le_refl _, Res.le_refl _, trivial⟩ rfl rfl ?_; rintro x rout ⟨rfl, rfl⟩; refine ⟨rfl, ?_⟩; conv => whnf)
    | (refine LoopX.run hT (C := []) 6 rfl [0, 4, 5, 32, 33] [1000000, 1000001, 1000002] (fun _ _ h => h) (fun _ h => h) ?_; conv => whnf)
    | (refine LoopX.run hT (C := []) 7 rfl [0, 4, 5, 7] [1000000, 1000001, 1000002] (fun _ _ h => h) (fun _ h => h) ?_; conv => whnf)
    | (refine LoopX.run hT (C := []) 22 rfl [0, 4, 5, 7, 8, 9, 10, 11, 50, 51, 52] [1000000, 1000001, 1000002] (fun _ _ h => h) (fun _ h => h) ?_; conv => whnf)
    | (refine LoopX.run hT (C := []) 40 rfl [0, 4, 5, 7, 8, 9, 10, 14, 15] [1000000, 1000001, 1000002] (fun _ _ h => h) (fun _ h => h) ?_; conv => whnf)
    | (refine LoopX.run hT (C := []) 60 rfl [0, 4, 5, 7, 9, 14, 15] [1000000, 1000001, 1000002] (fun _ _ h => h) (fun _ h => h) ?_; conv => whnf)
    | (refine br_intro (fun hb => ?_) (fun hb => ?_) <;> (try simp only [decide_eq_true_eq, decide_eq_false_iff_not, Bool.not_eq_true', Bool.not_eq_false', Bool.and_eq_true, Bool.or_eq_true, beq_iff_eq, not_and, Int.not_le, Int.not_lt, Int.toNat_natCast, beq_eq_false_iff_ne, ne_eq, eq_self, not_true_eq_false, not_false_eq_true] at hb) <;> (conv => whnf))
    | (refine RegX.rule (id := 1) hT rfl [] [(0, []), (1, []), (2, []), (3, []), (5, [0, 1, 2, 3]), (6, [0, 1, 2, 3]), (7, [0, 1, 2, 3]), (8, [0, 1, 2, 3]), (4, [5, 6, 7, 8]), (9, []), (10, []), (11, [])] (by decide +kernel) ?_; conv => whnf)
    | (refine RegX.rule (id := 14) hT rfl [] [(0, []), (1, []), (2, []), (3, []), (4, [3]), (5, []), (6, []), (7, []), (8, []), (9, []), (10, []), (11, []), (12, []), (13, []), (14, [13]), (15, []), (16, []), (17, [13, 14, 15, 16]), (18, [13, 14, 15, 16, 17]), (19, [13, 14, 15, 16]), (20, [13, 14, 15, 16]), (21, []), (22, []), (23, [])] (by decide +kernel) ?_; conv => whnf)
    | (refine RegX.rule (id := 21) hT rfl [] [(0, []), (1, []), (2, []), (3, []), (4, [0, 1, 2, 3]), (5, [0, 1, 2, 3, 4]), (6, [0, 1, 2, 3]), (7, [0, 1, 2, 3]), (8, [0, 1, 2, 3]), (9, []), (10, []), (11, [0, 1, 2, 3, 4, 5, 6, 7, 8, 9, 10]), (12, [])] (by decide +kernel) ?_; conv => whnf)
    | (refine RegX.rule (id := 23) hT rfl [] [(0, []), (1, [0]), (2, [0]), (3, []), (4, [0, 1, 2, 3]), (5, [0, 1, 2, 3]), (6, [4, 5]), (7, [])] (by decide +kernel) ?_; conv => whnf)
    | (refine RegX.rule (id := 31) hT rfl [] [(0, []), (1, []), (2, []), (3, []), (4, [0, 1, 2, 3]), (5, [0, 1, 2, 3, 4]), (6, [0, 1, 2, 3]), (7, [0, 1, 2, 3]), (8, [0, 1, 2, 3]), (9, []), (10, [])] (by decide +kernel) ?_; conv => whnf)
    | omega
    | (refine And.intro ?_ ?_; ((try dsimp only); first | omega | (refine ⟨by omega, by omega, Int.le_trans (Int.mul_le_mul_of_nonneg_right (Int.ofNat_le.2 (Nat.le_of_ble_eq_true (rfl : Nat.ble _ 1024 = true))) (by omega)) (by omega), by omega⟩) | (refine Nat.le_trans (Nat.mul_le_mul_left _ (Nat.le_of_ble_eq_true (rfl : Nat.ble _ 1024 = true))) ?_; omega) | (unfold inI64; omega) | (constructor <;> omega) | (simp only [inI64, List.length_cons, List.length_append, List.length_nil, List.length_set] at *; omega) | decide | (unfold inI64; decide)); conv => whnf)
    | omega | decide | assumption)
  refine .weak _ ?_
  conv => whnf
  exact ⟨.tup [.d (.int .i64 0), .d (.bool true)], _, SV.le_tup ⟨SV.le_int rfl, SV.le_bool rfl, trivial⟩, ⟨rfl, rfl⟩, Res.le_refl _, Res.le_refl _, Res.le_refl _, trivial⟩
-- shift.Plan, of the try
set_option maxHeartbeats 8000000 in
theorem s27t : FSpec Tryz.prog 119 [.d (neds tN), .d (roas tR)] [] (fun y r => y = .tup [.d (movs [⟨[97], [98], 1⟩]), .d (.int .i64 0)] ∧ r = []) := by
  refine spec_of hT (C := []) Tryz.func119 rfl Tryz.call119 rfl rfl rfl ?_
  conv => whnf
  repeat' (first
    | (refine CallX.exact (s113t) rfl rfl ?_; rotate_right; conv => whnf)
    | (refine CallX.of s114t [(20, 24), (15, 1000), (18, 1001), (88, 1002)] rfl ⟨SV.le_refl _, SV.le_refl _, trivial⟩ trivial rfl rfl ?_; rintro x rout ⟨rfl, rfl⟩; refine ⟨rfl, ?_⟩; conv => whnf)
    | (refine CallX.of s115a [(1000000, 24), (1000001, 1000), (1000002, 1001), (1000003, 1002)] rfl ⟨SV.le_refl _, trivial⟩ ⟨Res.le_refl _, Res.le_refl _, Res.le_refl _, Res.le_refl _, trivial⟩ rfl rfl ?_; rintro x rout ⟨rfl, rfl⟩; refine ⟨rfl, ?_⟩; conv => whnf)
    | (refine br_intro (fun hb => ?_) (fun hb => ?_) <;> (try simp only [decide_eq_true_eq, decide_eq_false_iff_not, Bool.not_eq_true', Bool.not_eq_false', Bool.and_eq_true, Bool.or_eq_true, beq_iff_eq, not_and, Int.not_le, Int.not_lt, Int.toNat_natCast, beq_eq_false_iff_ne, ne_eq, eq_self, not_true_eq_false, not_false_eq_true] at hb) <;> (conv => whnf))
    | (refine RegX.rule (id := 13) hT rfl [] [(0, []), (1, [0]), (2, [0]), (3, [0]), (4, [0]), (5, [0, 1, 2, 3, 4]), (6, [0, 1, 2, 3, 4]), (7, [0]), (8, [0]), (9, [0, 1, 2, 3, 4, 5, 6, 7, 8]), (10, [0, 1, 2, 3, 4, 5, 6, 7, 8]), (11, [0, 1, 2, 3, 4, 5, 6, 7, 8]), (12, [0, 1, 2, 3, 4, 5, 6, 7, 8]), (13, [0, 1, 2, 3, 4, 5, 6, 7, 8, 9, 10, 11, 12]), (14, [0, 1, 2, 3, 4, 5, 6, 7, 8, 9, 10, 11, 12]), (15, [0, 1, 2, 3, 4, 5, 6, 7, 8]), (16, [0, 1, 2, 3, 4, 5, 6, 7, 8]), (17, [0]), (18, [])] (by decide +kernel) ?_; conv => whnf)
    | (refine RegX.rule (id := 19) hT rfl [] [(0, []), (1, [0]), (2, [0, 1]), (3, [0, 1]), (4, [0]), (5, [0]), (6, [0]), (7, [0, 1, 2, 3, 4, 5, 6]), (8, [0, 1, 2, 3, 4, 5, 6, 7]), (9, [0, 1, 2, 3, 4, 5, 6, 7]), (10, [0, 1, 2, 3, 4, 5, 6]), (11, [0, 1, 2, 3, 4, 5, 6]), (12, [0, 1, 2, 3, 4, 5, 6]), (13, [0, 1, 2, 3, 4, 5, 6, 7, 8, 9, 10, 11, 12]), (14, [0]), (15, [0]), (16, []), (17, [])] (by decide +kernel) ?_; conv => whnf)
    | omega
    | (refine And.intro ?_ ?_; ((try dsimp only); first | omega | (refine ⟨by omega, by omega, Int.le_trans (Int.mul_le_mul_of_nonneg_right (Int.ofNat_le.2 (Nat.le_of_ble_eq_true (rfl : Nat.ble _ 1024 = true))) (by omega)) (by omega), by omega⟩) | (refine Nat.le_trans (Nat.mul_le_mul_left _ (Nat.le_of_ble_eq_true (rfl : Nat.ble _ 1024 = true))) ?_; omega) | (unfold inI64; omega) | (constructor <;> omega) | (simp only [inI64, List.length_cons, List.length_append, List.length_nil, List.length_set] at *; omega) | decide | (unfold inI64; decide)); conv => whnf)
    | omega | decide | assumption)
  refine LoopX.freeze 1002 242 4 1 _ rfl ?_
  repeat' (first
    | (refine CallX.of s116t [(1000000, 24), (1000001, 1000), (1000002, 1001), (1000003, 1002), (30, 1100), (16, 1101), (21, 1102)] rfl ⟨SV.le_refl _, SV.le_int rfl, SV.le_int rfl, SV.le_int rfl, SV.le_int rfl, trivial⟩ ⟨Res.le_refl _, Res.le_refl _, Res.le_refl _, Res.le_fro rfl (fun i hi => by (have : i = 0 := by simp at hi; omega); subst this; rfl), trivial⟩ rfl rfl ?_; rintro x rout ⟨rfl, rfl⟩; refine ⟨rfl, ?_⟩; conv => whnf)
    | (refine CallX.of s116t [(1000000, 24), (1000001, 1000), (1000002, 1001), (1000003, 1002), (30, 1200), (16, 1201), (21, 1202)] rfl ⟨SV.le_refl _, SV.le_int rfl, SV.le_int rfl, SV.le_int rfl, SV.le_int rfl, trivial⟩ ⟨Res.le_refl _, Res.le_refl _, Res.le_refl _, Res.le_fro rfl (fun i hi => by (have : i = 0 := by simp at hi; omega); subst this; rfl), trivial⟩ rfl rfl ?_; rintro x rout ⟨rfl, rfl⟩; refine ⟨rfl, ?_⟩; conv => whnf)
    | (refine CallX.of s115b [(1000000, 1100), (1000001, 1101), (1000002, 1102)] rfl ⟨SV.le_refl _, trivial⟩ ⟨Res.le_refl _, Res.le_refl _, Res.le_refl _, trivial⟩ rfl rfl ?_; rintro x rout ⟨rfl, rfl⟩; refine ⟨rfl, ?_⟩; conv => whnf)
    | (refine LoopX.run hT (C := []) 18 rfl [0, 7, 8, 10] [] (fun _ _ h => h) (fun _ h => h) ?_; conv => whnf)
    | (refine LoopX.run hT (C := []) 26 rfl [0, 7, 8, 10, 11, 12, 13] [] (fun _ _ h => h) (fun _ h => h) ?_; conv => whnf)
    | (refine br_intro (fun hb => ?_) (fun hb => ?_) <;> (try simp only [decide_eq_true_eq, decide_eq_false_iff_not, Bool.not_eq_true', Bool.not_eq_false', Bool.and_eq_true, Bool.or_eq_true, beq_iff_eq, not_and, Int.not_le, Int.not_lt, Int.toNat_natCast, beq_eq_false_iff_ne, ne_eq, eq_self, not_true_eq_false, not_false_eq_true] at hb) <;> (conv => whnf))
    | (refine RegX.rule (id := 13) hT rfl [] [(0, []), (1, [0]), (2, [0]), (3, [0]), (4, [0]), (5, [0, 1, 2, 3, 4]), (6, [0, 1, 2, 3, 4]), (7, [0]), (8, [0]), (9, [0, 1, 2, 3, 4, 5, 6, 7, 8]), (10, [0, 1, 2, 3, 4, 5, 6, 7, 8]), (11, [0, 1, 2, 3, 4, 5, 6, 7, 8]), (12, [0, 1, 2, 3, 4, 5, 6, 7, 8]), (13, [0, 1, 2, 3, 4, 5, 6, 7, 8, 9, 10, 11, 12]), (14, [0, 1, 2, 3, 4, 5, 6, 7, 8, 9, 10, 11, 12]), (15, [0, 1, 2, 3, 4, 5, 6, 7, 8]), (16, [0, 1, 2, 3, 4, 5, 6, 7, 8]), (17, [0]), (18, [])] (by decide +kernel) ?_; conv => whnf)
    | (refine RegX.rule (id := 19) hT rfl [] [(0, []), (1, [0]), (2, [0, 1]), (3, [0, 1]), (4, [0]), (5, [0]), (6, [0]), (7, [0, 1, 2, 3, 4, 5, 6]), (8, [0, 1, 2, 3, 4, 5, 6, 7]), (9, [0, 1, 2, 3, 4, 5, 6, 7]), (10, [0, 1, 2, 3, 4, 5, 6]), (11, [0, 1, 2, 3, 4, 5, 6]), (12, [0, 1, 2, 3, 4, 5, 6]), (13, [0, 1, 2, 3, 4, 5, 6, 7, 8, 9, 10, 11, 12]), (14, [0]), (15, [0]), (16, []), (17, [])] (by decide +kernel) ?_; conv => whnf)
    | omega
    | (refine And.intro ?_ ?_; ((try dsimp only); first | omega | (refine ⟨by omega, by omega, Int.le_trans (Int.mul_le_mul_of_nonneg_right (Int.ofNat_le.2 (Nat.le_of_ble_eq_true (rfl : Nat.ble _ 1024 = true))) (by omega)) (by omega), by omega⟩) | (refine Nat.le_trans (Nat.mul_le_mul_left _ (Nat.le_of_ble_eq_true (rfl : Nat.ble _ 1024 = true))) ?_; omega) | (unfold inI64; omega) | (constructor <;> omega) | (simp only [inI64, List.length_cons, List.length_append, List.length_nil, List.length_set] at *; omega) | decide | (unfold inI64; decide)); conv => whnf)
    | omega | decide | assumption)
  refine .freeze _ 106 66 3 _ _ rfl (.weak _ ?_)
  conv => whnf
  exact ⟨.tup [.d (movs [⟨[97], [98], 1⟩]), .d (.int .i64 0)], _, SV.le_tup ⟨SV.le_ro rfl (fun i hi => by (have : i = 0 := by simp at hi; omega); subst this; rfl), SV.le_int rfl, trivial⟩, ⟨rfl, rfl⟩, trivial⟩
theorem mov_eq {a b : Mov} : a = b ↔ a.a = b.a ∧ a.b = b.b ∧ a.many = b.many := by cases a; cases b; simp
instance : DecidableEq Mov := fun _ _ => decidable_of_iff _ mov_eq.symm
-- slices.Equal of moves
theorem s31 (l m : List Mov) (hl : l.length ≤ 2^40) : FSpec Tryz.prog 120 [.d (movs l), .d (movs m)] [] (fun x r => x = .d (.bool (decide (l = m))) ∧ r = []) := by
  refine spec_of hT (C := []) Tryz.func120 rfl Tryz.call120 rfl rfl rfl ?_
  conv => whnf
  repeat' (first
    | (refine br_intro (fun hb => ?_) (fun hb => ?_) <;> (try simp only [decide_eq_true_eq, decide_eq_false_iff_not, Bool.not_eq_true', Bool.not_eq_false', Bool.and_eq_true, Bool.or_eq_true, beq_iff_eq, not_and, Int.not_le, Int.not_lt, Int.toNat_natCast, beq_eq_false_iff_ne, ne_eq, eq_self, not_true_eq_false, not_false_eq_true] at hb) <;> (conv => whnf))
    | (refine RegX.rule (id := 6) hT rfl [] [(0, []), (1, [0]), (2, []), (3, []), (4, [0, 1, 2, 3]), (5, [0, 1, 2, 3, 4]), (6, [0, 1, 2, 3]), (7, [0, 1, 2, 3]), (8, [])] (by decide +kernel) ?_; conv => whnf)
    | omega
    | (refine And.intro ?_ ?_; ((try dsimp only); first | omega | (refine ⟨by omega, by omega, Int.le_trans (Int.mul_le_mul_of_nonneg_right (Int.ofNat_le.2 (Nat.le_of_ble_eq_true (rfl : Nat.ble _ 1024 = true))) (by omega)) (by omega), by omega⟩) | (refine Nat.le_trans (Nat.mul_le_mul_left _ (Nat.le_of_ble_eq_true (rfl : Nat.ble _ 1024 = true))) ?_; omega) | (unfold inI64; omega) | (constructor <;> omega) | (simp only [inI64, List.length_cons, List.length_append, List.length_nil, List.length_set] at *; omega) | decide | (unfold inI64; decide)); conv => whnf)
    | omega | decide | assumption)
  · refine .ret _ ?_
    conv => whnf
    refine ⟨[], ⟨?_, rfl⟩, trivial⟩
    conv => lhs; whnf
    have : ¬ l = m := fun q => by subst q; simp at hb
    simp [this]
  have hlen : l.length = m.length := by
    omega
  refine LoopX.rule hT (C := []) (ι := Nat) (fun i => i ≤ l.length ∧ ∀ j, j < i → l.getD j mv0 = m.getD j mv0) (fun i => mkSt [(0, .d (movs l)), (1, .d (movs m)), (12, .d (.int .i64 l.length)), (13, .d (.int .i64 i))] []) (fun i => l.length - i) 0 ⟨by omega, by omega⟩ (by refine Entails.mk' [] rfl rfl ?_ ?_ <;> repeat' (first | exact True.intro | exact SV.le_refl _ | exact Res.le_refl _ | exact SV.le_int (by omega) | exact SV.le_any _ | refine And.intro ?_ ?_)) ?_
  rintro i ⟨p1, p2⟩
  have e1 : (i : Int).toNat = i := Int.toNat_natCast i
  conv => whnf
  repeat' (first
    | (refine br_intro (fun hb => ?_) (fun hb => ?_) <;> (try simp only [decide_eq_true_eq, decide_eq_false_iff_not, Bool.not_eq_true', Bool.not_eq_false', Bool.and_eq_true, Bool.or_eq_true, beq_iff_eq, not_and, Int.not_le, Int.not_lt, Int.toNat_natCast, beq_eq_false_iff_ne, ne_eq, eq_self, not_true_eq_false, not_false_eq_true] at hb) <;> (conv => whnf))
    | (refine RegX.rule (id := 6) hT rfl [] [(0, []), (1, [0]), (2, []), (3, []), (4, [0, 1, 2, 3]), (5, [0, 1, 2, 3, 4]), (6, [0, 1, 2, 3]), (7, [0, 1, 2, 3]), (8, [])] (by decide +kernel) ?_; conv => whnf)
    | omega
    | (refine And.intro ?_ ?_; ((try dsimp only); first | omega | (refine ⟨by omega, by omega, Int.le_trans (Int.mul_le_mul_of_nonneg_right (Int.ofNat_le.2 (Nat.le_of_ble_eq_true (rfl : Nat.ble _ 1024 = true))) (by omega)) (by omega), by omega⟩) | (refine Nat.le_trans (Nat.mul_le_mul_left _ (Nat.le_of_ble_eq_true (rfl : Nat.ble _ 1024 = true))) ?_; omega) | (unfold inI64; omega) | (constructor <;> omega) | (simp only [inI64, List.length_cons, List.length_append, List.length_nil, List.length_set] at *; omega) | decide | (unfold inI64; decide)); conv => whnf)
    | omega | decide | assumption)
  · refine .ret _ ?_
    conv => whnf
    refine ⟨[], ⟨?_, rfl⟩, trivial⟩
    conv => lhs; whnf
    have : ¬ l = m := fun q => by subst q; simp at hb
    simp [this]
  · exact ⟨i + 1, ⟨by omega, all_step p2 (by rw [mov_eq]; simpa [and_assoc] using hb)⟩, by omega, (by refine Entails.mk' [] rfl rfl ?_ ?_ <;> repeat' (first | exact True.intro | exact SV.le_refl _ | exact Res.le_refl _ | exact SV.le_int (by omega) | exact SV.le_any _ | refine And.intro ?_ ?_))⟩
  · refine .ret _ ?_
    conv => whnf
    refine ⟨[], ⟨?_, rfl⟩, trivial⟩
    conv => lhs; whnf
    have : i = l.length := by omega
    subst this
    simp [eq_of_getD mv0 hlen p2]
-- shifted
theorem s32 : FSpec Tryz.prog 29 [] [] (fun x r => x = .d (.bool true) ∧ r = []) := by
  have h31 := s31 [⟨[97], [98], 1⟩] [⟨[97], [98], 1⟩] (by simp)
  rw [decide_eq_true rfl] at h31
  refine spec_of hT (C := []) Tryz.func29 rfl Tryz.call29 rfl rfl rfl ?_
  conv => whnf
  repeat' (first
    | (refine CallX.pure s27t ⟨SV.le_lit rfl rfl, SV.le_lit rfl rfl, trivial⟩ rfl ?_; conv => whnf)
    | (refine CallX.pure h31 ⟨SV.le_refl _, SV.le_lit rfl rfl, trivial⟩ rfl ?_; conv => whnf)
    | (refine br_intro (fun hb => ?_) (fun hb => ?_) <;> (try simp only [decide_eq_true_eq, decide_eq_false_iff_not, Bool.not_eq_true', Bool.not_eq_false', Bool.and_eq_true, Bool.or_eq_true, beq_iff_eq, not_and, Int.not_le, Int.not_lt, Int.toNat_natCast, beq_eq_false_iff_ne, ne_eq, eq_self, not_true_eq_false, not_false_eq_true] at hb) <;> (conv => whnf))
    | omega
    | (refine And.intro ?_ ?_; ((try dsimp only); first | omega | (refine ⟨by omega, by omega, Int.le_trans (Int.mul_le_mul_of_nonneg_right (Int.ofNat_le.2 (Nat.le_of_ble_eq_true (rfl : Nat.ble _ 1024 = true))) (by omega)) (by omega), by omega⟩) | (refine Nat.le_trans (Nat.mul_le_mul_left _ (Nat.le_of_ble_eq_true (rfl : Nat.ble _ 1024 = true))) ?_; omega) | (unfold inI64; omega) | (constructor <;> omega) | (simp only [inI64, List.length_cons, List.length_append, List.length_nil, List.length_set] at *; omega) | decide | (unfold inI64; decide)); conv => whnf)
    | omega | decide | assumption)
  refine .ret _ ?_
  conv => whnf
  refine ⟨[], ⟨?_, rfl⟩, trivial⟩
  conv => lhs; whnf
end Go.Proofs.YtnkdlkgannnfhaaGreatDoor
set_option maxRecDepth 20000
namespace Go.Proofs.YtnkdlkgannnfhaaGreatDoor
open Go Go.Eng
structure Pnl where
  key : List UInt8
  w : Int
  h : Int
  pr : Int
def pnF : Pnl → List DV := fun p => [.str p.key, .int .i64 p.w, .int .i64 p.h, .int .i64 p.pr]
def pn0 : Pnl := ⟨[], 0, 0, 0⟩
abbrev pnls (l : List Pnl) : DV := seqD 4 pnF pn0 l
structure Mrk where
  pan : List UInt8
  kind : Int
  x : Int
  y : Int
  size : Int
def mkF : Mrk → List DV := fun m => [.str m.pan, .int .i64 m.kind, .int .i64 m.x, .int .i64 m.y, .int .i64 m.size]
def mk0 : Mrk := ⟨[], 0, 0, 0, 0⟩
abbrev mrks (l : List Mrk) : DV := seqD 5 mkF mk0 l
structure Rul where
  near : Int
  slack : Int
  join : Int
  part : Int
def ruF : Rul → List DV := fun r => [.int .i64 r.near, .int .i64 r.slack, .int .i64 r.join, .int .i64 r.part]
def panE (l : List Pnl) (i : Nat) : Int :=
  let x := l.getD i pn0
  if isKeyB x.key = false then 5 else if 0 < i ∧ strLe x.key (l.getD (i - 1) pn0).key = true then 7 else if ¬ ((1 ≤ x.w ∧ x.w ≤ 5000) ∧ (1 ≤ x.h ∧ x.h ≤ 5000) ∧ (0 ≤ x.pr ∧ x.pr ≤ 1000000)) then 1 else 0
def pansE (l : List Pnl) : Int := if 40 < l.length then 2 else firstAt (panE l) l.length
def mrkCmp (a b : Mrk) : Int := firstE [cmpS a.pan b.pan, cmpI a.kind b.kind, cmpI a.x b.x, cmpI a.y b.y, cmpI a.size b.size]
def mrkE (l : List Mrk) (i : Nat) : Int :=
  let x := l.getD i mk0
  if isKeyB x.pan = false then 5 else if ¬ (1 ≤ x.kind ∧ x.kind ≤ 4) then 4 else if ¬ ((0 ≤ x.x ∧ x.x ≤ 5000) ∧ (0 ≤ x.y ∧ x.y ≤ 5000) ∧ (1 ≤ x.size ∧ x.size ≤ 2000)) then 1 else if 0 < i ∧ 0 ≤ mrkCmp (l.getD (i - 1) mk0) x then 7 else 0
def mrksE (l : List Mrk) : Int := if 60 < l.length then 2 else firstAt (mrkE l) l.length
def panIx (p : List Pnl) (key : List UInt8) : Int := ixF (fun i => (p.getD i pn0).key == key) p.length
def onE (p : List Pnl) (l : List Mrk) (i : Nat) : Int :=
  let m := l.getD i mk0
  let k := panIx p m.pan
  if k < 0 then 8 else if (p.getD k.toNat pn0).w ≤ m.x ∨ (p.getD k.toNat pn0).h ≤ m.y then 1 else 0
def sameM (a b : Mrk) : Bool := a.pan == b.pan && decide (a.kind = b.kind)
/-- How many of the first n marks are of a mark's panel and kind. -/
def cntM (l : List Mrk) (m : Mrk) : Nat → Nat
  | 0 => 0
  | n + 1 => cntM l m n + (if sameM (l.getD n mk0) m then 1 else 0)
/-- The marks of one panel and kind that end at a place. -/
def runM (l : List Mrk) : Nat → Nat
  | 0 => 1
  | n + 1 => if sameM (l.getD (n + 1) mk0) (l.getD n mk0) then runM l n + 1 else 1
def fullE (l : List Mrk) (i : Nat) : Int := if 6 < runM l i then 12 else 0
def full2E (l : List Mrk) (i : Nat) : Int := if 6 < cntM l (l.getD i mk0) l.length then 12 else 0
def onPE (p : List Pnl) (l : List Mrk) : Int := if mrksE l ≠ 0 then mrksE l else if firstAt (onE p l) l.length ≠ 0 then firstAt (onE p l) l.length else firstAt (fullE l) l.length
theorem less_trans : ∀ {a b c : List UInt8}, Op.bytesLess a b = true → Op.bytesLess b c = true → Op.bytesLess a c = true := by
  intro a
  induction a with
  | nil => intro b c h1 h2; cases b <;> cases c <;> simp_all [Op.bytesLess]
  | cons x a ih =>
    intro b c h1 h2
    cases b with
    | nil => simp [Op.bytesLess] at h1
    | cons y b =>
      cases c with
      | nil => simp [Op.bytesLess] at h2
      | cons z c =>
        simp only [Op.bytesLess] at h1 h2 ⊢
        grind [UInt8.lt_trans]
theorem less_irr : ∀ (a : List UInt8), Op.bytesLess a a = false := by
  intro a
  induction a with
  | nil => rfl
  | cons x a ih => simp [Op.bytesLess, ih]
/-- By panel, then by kind. -/
def kle (a b : Mrk) : Prop := Op.bytesLess a.pan b.pan = true ∨ (a.pan = b.pan ∧ a.kind ≤ b.kind)
theorem kle_trans {a b c : Mrk} (h : kle a b) (k : kle b c) : kle a c := by
  unfold kle at *
  rcases h with h | ⟨h1, h2⟩ <;> rcases k with k | ⟨k1, k2⟩
  · exact .inl (less_trans h k)
  · exact .inl (k1 ▸ h)
  · exact .inl (h1 ▸ k)
  · exact .inr ⟨h1.trans k1, by omega⟩
theorem kle_anti {a b : Mrk} (h : kle a b) (k : kle b a) : sameM a b = true := by
  unfold kle at *
  rcases h with h | ⟨h1, h2⟩ <;> rcases k with k | ⟨k1, k2⟩
  · have := less_trans h k; rw [less_irr] at this; cases this
  · rw [k1, less_irr] at h; cases h
  · rw [h1, less_irr] at k; cases k
  · simp [sameM, h1]; omega
theorem cmp_kle {a b : Mrk} (h : mrkCmp a b < 0) : kle a b := by
  unfold mrkCmp at h
  simp only [firstE, cmpS, cmpI] at h
  unfold kle
  by_cases q : Op.bytesLess a.pan b.pan = true
  · exact .inl q
  · have q' : Op.bytesLess a.pan b.pan = false := by simpa using q
    by_cases e : a.pan = b.pan
    · refine .inr ⟨e, ?_⟩
      have q2 : Op.bytesLess b.pan a.pan = false := by rw [e]; exact less_irr _
      simp only [q', q2] at h
      grind
    · have := less_tri _ _ q' e
      simp [q', this] at h
def incM (l : List Mrk) : Prop := ∀ i, i + 1 < l.length → kle (l.getD i mk0) (l.getD (i + 1) mk0)
theorem inc_le {l : List Mrk} (h : incM l) : ∀ {j i : Nat}, i ≤ j → j < l.length → kle (l.getD i mk0) (l.getD j mk0) := by
  intro j
  induction j with
  | zero => intro i hi _; obtain rfl : i = 0 := by omega
            exact .inr ⟨rfl, Int.le_refl _⟩
  | succ j ih =>
    intro i hi hj
    by_cases q : i = j + 1
    · subst q; exact .inr ⟨rfl, Int.le_refl _⟩
    · exact kle_trans (ih (by omega) (by omega)) (h j hj)
theorem sameM_symm {a b : Mrk} (h : sameM a b = true) : sameM b a = true := by
  simp [sameM] at *; exact ⟨h.1.symm, h.2.symm⟩
theorem sameM_trans {a b c : Mrk} (h : sameM a b = true) (k : sameM b c = true) : sameM a c = true := by
  simp [sameM] at *; exact ⟨h.1.trans k.1, h.2.trans k.2⟩
theorem cnt_same {l : List Mrk} {a b : Mrk} (h : sameM a b = true) : ∀ n, cntM l a n = cntM l b n := by
  intro n
  induction n with
  | zero => rfl
  | succ n ih =>
    have : sameM (l.getD n mk0) a = sameM (l.getD n mk0) b := by
      rw [Bool.eq_iff_iff]; exact ⟨fun q => sameM_trans q h, fun q => sameM_trans q (sameM_symm h)⟩
    simp only [cntM, ih, this]
theorem cnt_none {l : List Mrk} {m : Mrk} : ∀ n, (∀ j, j < n → sameM (l.getD j mk0) m = false) → cntM l m n = 0 := by
  intro n
  induction n with
  | zero => intro _; rfl
  | succ n ih => intro h; simp only [cntM]; rw [ih (fun j hj => h j (by omega)), h n (by omega)]; rfl
theorem sameM_refl (a : Mrk) : sameM a a = true := by simp [sameM]
theorem run_cnt {l : List Mrk} (h : incM l) : ∀ i, i < l.length → runM l i = cntM l (l.getD i mk0) (i + 1) := by
  intro i
  induction i with
  | zero => intro _; simp [runM, cntM, sameM_refl]
  | succ i ih =>
    intro hi
    rw [cntM, sameM_refl, if_pos rfl, runM]
    split
    · rename_i q
      rw [ih (by omega), cnt_same (sameM_symm q)]
    · rename_i q
      rw [cnt_none]
      intro j hj
      rw [← Bool.not_eq_true]
      intro hs
      refine q (sameM_symm (kle_anti (h i (by omega)) ?_))
      have h1 := inc_le h (i := j) (j := i) (by omega) (by omega)
      have h2 : kle (l.getD (i + 1) mk0) (l.getD j mk0) := by
        have := sameM_symm hs
        simp [sameM] at this
        exact .inr ⟨by simpa using this.1, by simpa using Int.le_of_eq this.2⟩
      exact kle_trans h2 h1
theorem cnt_mono {l : List Mrk} {m : Mrk} : ∀ {n k : Nat}, n ≤ k → cntM l m n ≤ cntM l m k := by
  intro n k
  induction k with
  | zero => intro h; obtain rfl : n = 0 := by omega
            exact Nat.le_refl _
  | succ k ih =>
    intro h
    by_cases q : n = k + 1
    · subst q; exact Nat.le_refl _
    · have := ih (by omega)
      rw [cntM]; omega
/-- The last of a kind has them all behind it. -/
theorem cnt_last {l : List Mrk} {m : Mrk} : ∀ {n : Nat}, 0 < cntM l m n → ∃ i, i < n ∧ sameM (l.getD i mk0) m = true ∧ cntM l m (i + 1) = cntM l m n := by
  intro n
  induction n with
  | zero => intro h; simp [cntM] at h
  | succ n ih =>
    intro h
    by_cases q : sameM (l.getD n mk0) m = true
    · exact ⟨n, by omega, q, rfl⟩
    · have e : cntM l m (n + 1) = cntM l m n := by rw [cntM, if_neg q]; omega
      rw [e] at h ⊢
      obtain ⟨i, h1, h2, h3⟩ := ih h
      exact ⟨i, by omega, h2, h3⟩
theorem firstAt_const {f : Nat → Int} {n : Nat} {e : Int} (h : ∀ i, i < n → f i = 0 ∨ f i = e) : firstAt f n = 0 ∨ firstAt f n = e := by
  induction n with
  | zero => exact .inl rfl
  | succ n ih =>
    rw [firstAt]
    have := ih fun i hi => h i (by omega)
    split
    · exact h n (by omega)
    · exact this
theorem full_eq {l : List Mrk} (h : incM l) : firstAt (full2E l) l.length = firstAt (fullE l) l.length := by
  have c1 := firstAt_const (f := fullE l) (n := l.length) (e := 12) (fun i _ => by unfold fullE; split <;> simp)
  have c2 := firstAt_const (f := full2E l) (n := l.length) (e := 12) (fun i _ => by unfold full2E; split <;> simp)
  rcases c1 with c1 | c1 <;> rcases c2 with c2 | c2
  · rw [c1, c2]
  · exfalso
    have h1 := firstAt_all c1
    have : firstAt (full2E l) l.length = 0 := by
      refine firstAt_zero (fun i hi => ?_)
      unfold full2E
      rw [if_neg]
      intro q
      obtain ⟨k, k1, k2, k3⟩ := cnt_last (n := l.length) (by omega : 0 < cntM l (l.getD i mk0) l.length)
      have := h1 k k1
      unfold fullE at this
      rw [run_cnt h k k1, cnt_same k2, k3, if_pos q] at this
      cases this
    omega
  · exfalso
    have h1 := firstAt_all c2
    have : firstAt (fullE l) l.length = 0 := by
      refine firstAt_zero (fun i hi => ?_)
      unfold fullE
      rw [if_neg]
      intro q
      have := h1 i hi
      unfold full2E at this
      rw [if_pos] at this
      · cases this
      · rw [run_cnt h i hi] at q
        have := cnt_mono (l := l) (m := l.getD i mk0) (n := i + 1) (k := l.length) (by omega)
        omega
    omega
  · rw [c1, c2]
theorem mrks_inc {l : List Mrk} (h : mrksE l = 0) : incM l := by
  unfold mrksE at h
  split at h
  · cases h
  intro i hi
  have := firstAt_all h (i + 1) hi
  unfold mrkE at this
  simp only at this
  refine cmp_kle ?_
  grind
end Go.Proofs.YtnkdlkgannnfhaaGreatDoor
