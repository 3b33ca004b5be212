/- PlacesLeast is proved: for every input the law returns true, and its argument reads afterwards as it read before. Conditions: those of the given row alone. -/
import Derived.Test.YtellmmmohdjpeaaDoorPlConTwo
set_option linter.unusedVariables false
set_option linter.unusedSimpArgs false
set_option maxRecDepth 20000
namespace Go.Proofs.YtellmmmohdjpeaaDoor
open Go Go.Eng
structure Gate where
  key : List UInt8
  area : List UInt8
  clock : Int
def gF : Gate → List DV := fun g => [.str g.key, .str g.area, .int .i64 g.clock]
def g0 : Gate := ⟨[], [], 0⟩
abbrev gates (l : List Gate) : DV := seqD 3 gF g0 l
structure Pas where
  tm : Int
  gate : List UInt8
  plate : List UInt8
  cents : Int
def paF : Pas → List DV := fun p => [.int .i64 p.tm, .str p.gate, .str p.plate, .int .i64 p.cents]
def pa0 : Pas := ⟨0, [], [], 0⟩
abbrev pass (l : List Pas) : DV := seqD 4 paF pa0 l
def tollE (a b c : Int) : Int := if (0 ≤ a ∧ a ≤ 1440) ∧ (-1 ≤ b ∧ b ≤ 1000000) ∧ (0 ≤ c ∧ c ≤ 1000000) then 0 else 1
-- toll.CheckRules
theorem s66 (a b c : Int) : FSpec Tryd.prog 66 [.agg [.d (.int .i64 a), .d (.int .i64 b), .d (.int .i64 c)]] [] (fun x r => x = .d (.int .i64 (tollE a b c)) ∧ r = []) := by
  refine spec_of hT (C := []) Tryd.func66 rfl Tryd.call66 rfl rfl rfl ?_
  conv => whnf
  repeat' (first
    | (refine CallX.exact (s119 _ _ _) rfl rfl ?_; rotate_right; conv => whnf)
    | (refine CallX.exact (s107 _ _) rfl rfl ?_; rotate_right; conv => whnf)
    | (refine br_intro (fun hb => ?_) (fun hb => ?_) <;> (try simp only [decide_eq_true_eq, decide_eq_false_iff_not, Bool.not_eq_true', Bool.not_eq_false', Bool.and_eq_true, Bool.or_eq_true, beq_iff_eq, not_and, Int.not_le, Int.not_lt, Int.toNat_natCast, beq_eq_false_iff_ne, ne_eq, eq_self, not_true_eq_false, not_false_eq_true] at hb) <;> (conv => whnf))
    | omega
    | (refine And.intro ?_ ?_; ((try dsimp only); first | omega | (refine ⟨by omega, by omega, Int.le_trans (Int.mul_le_mul_of_nonneg_right (Int.ofNat_le.2 (Nat.le_of_ble_eq_true (rfl : Nat.ble _ 1024 = true))) (by omega)) (by omega), by omega⟩) | (refine Nat.le_trans (Nat.mul_le_mul_left _ (Nat.le_of_ble_eq_true (rfl : Nat.ble _ 1024 = true))) ?_; omega) | (unfold inI64; omega) | (constructor <;> omega) | (simp only [inI64, List.length_cons, List.length_append, List.length_nil, List.length_set] at *; omega) | decide | (unfold inI64; decide)); conv => whnf)
    | omega | decide | assumption)
  all_goals
    refine .ret _ ?_
    conv => whnf
    refine ⟨[], ⟨?_, rfl⟩, trivial⟩
    conv => lhs; whnf
    congr 2; simp only [tollE]; grind
-- Q.TollFault
theorem s18 (a b c : Int) : FSpec Tryd.prog 18 [.agg [.d (.int .i64 a), .d (.int .i64 b), .d (.int .i64 c)]] [] (fun x r => x = .d (.int .i64 (tollE a b c)) ∧ r = []) := by
  refine spec_of hT (C := []) Tryd.func18 rfl Tryd.call18 rfl rfl rfl ?_
  conv => whnf
  repeat' (first
    | (refine CallX.exact (s109 _ _ _) rfl rfl ?_; rotate_right; conv => whnf)
    | (refine br_intro (fun hb => ?_) (fun hb => ?_) <;> (try simp only [decide_eq_true_eq, decide_eq_false_iff_not, Bool.not_eq_true', Bool.not_eq_false', Bool.and_eq_true, Bool.or_eq_true, beq_iff_eq, not_and, Int.not_le, Int.not_lt, Int.toNat_natCast, beq_eq_false_iff_ne, ne_eq, eq_self, not_true_eq_false, not_false_eq_true] at hb) <;> (conv => whnf))
    | omega
    | (refine And.intro ?_ ?_; ((try dsimp only); first | omega | (refine ⟨by omega, by omega, Int.le_trans (Int.mul_le_mul_of_nonneg_right (Int.ofNat_le.2 (Nat.le_of_ble_eq_true (rfl : Nat.ble _ 1024 = true))) (by omega)) (by omega), by omega⟩) | (refine Nat.le_trans (Nat.mul_le_mul_left _ (Nat.le_of_ble_eq_true (rfl : Nat.ble _ 1024 = true))) ?_; omega) | (unfold inI64; omega) | (constructor <;> omega) | (simp only [inI64, List.length_cons, List.length_append, List.length_nil, List.length_set] at *; omega) | decide | (unfold inI64; decide)); conv => whnf)
    | omega | decide | assumption)
  all_goals
    refine .ret _ ?_
    conv => whnf
    refine ⟨[], ⟨?_, rfl⟩, trivial⟩
    conv => lhs; whnf
    congr 2; simp only [tollE]; grind
def gateE (l : List Gate) (i : Nat) : Int :=
  if isKeyB (l.getD i g0).key = false ∨ isKeyB (l.getD i g0).area = false then 5 else if 0 < i ∧ strLe (l.getD i g0).key (l.getD (i - 1) g0).key = true then 7 else if ¬ (-1440 ≤ (l.getD i g0).clock ∧ (l.getD i g0).clock ≤ 1440) then 1 else 0
def gatesE (l : List Gate) : Int := if 200 < l.length then 2 else firstAt (gateE l) l.length
def gOk (l : List Gate) : Prop := l.length ≤ 2^40 ∧ ∀ g ∈ l, g.key.length ≤ 2^40 ∧ g.area.length ≤ 2^40
-- toll.CheckGates
theorem s88 (l : List Gate) (hk : gOk l) : FSpec Tryd.prog 88 [.d (gates l)] [] (fun x r => x = .d (.int .i64 (gatesE l)) ∧ r = []) := by
  refine spec_of hT (C := []) Tryd.func88 rfl Tryd.call88 rfl rfl rfl ?_
  conv => whnf
  refine br_intro (fun h0 => ?_) (fun h0 => ?_)
  · simp at h0
    conv => whnf
    refine .ret _ ?_
    conv => whnf
    refine ⟨[], ⟨?_, rfl⟩, trivial⟩
    conv => lhs; whnf
    unfold gatesE; rw [if_pos (by omega)]
  simp at h0
  conv => whnf
  refine LoopX.rule hT (C := []) (ι := Nat) (fun i => i ≤ l.length ∧ ∀ j, j < i → gateE l j = 0) (fun i => mkSt [(0, .d (gates l)), (8, .d (gates l)), (9, .d (.int .i64 l.length)), (10, .d (.int .i64 i))] []) (fun i => l.length - i) 0 ⟨by omega, by omega⟩ (by refine Entails.mk' [] rfl rfl ?_ ?_ <;> repeat' (first | exact True.intro | exact SV.le_refl _ | exact Res.le_refl _ | exact SV.le_int (by omega) | exact SV.le_any _ | refine And.intro ?_ ?_)) ?_
  rintro i ⟨p1, p2⟩
  have hx : (i : Int) < l.length → (l.getD (i : Int).toNat g0).key.length ≤ 2^40 ∧ (l.getD (i : Int).toNat g0).area.length ≤ 2^40 := fun hi => hk.2 _ (getD_mem (by omega))
  have e1 : (i : Int).toNat = i := Int.toNat_natCast i
  have hbad : ∀ e : Int, i < l.length → e ≠ 0 → gateE l i = e → gatesE l = e := fun e h h1 h2 => by
    unfold gatesE; rw [if_neg (by omega)]
    exact firstAt_eq h p2 h1 h2
  conv => whnf
  repeat' (first
    | (refine CallX.exact (s108 _ (hx (by omega)).1) rfl rfl ?_; rotate_right; conv => whnf)
    | (refine CallX.exact (s108 _ (hx (by omega)).2) rfl rfl ?_; rotate_right; conv => whnf)
    | (refine CallX.exact (s119 _ _ _) rfl rfl ?_; rotate_right; conv => whnf)
    | (refine br_intro (fun hb => ?_) (fun hb => ?_) <;> (try simp only [decide_eq_true_eq, decide_eq_false_iff_not, Bool.not_eq_true', Bool.not_eq_false', Bool.and_eq_true, Bool.or_eq_true, beq_iff_eq, not_and, Int.not_le, Int.not_lt, Int.toNat_natCast, beq_eq_false_iff_ne, ne_eq, eq_self, not_true_eq_false, not_false_eq_true] at hb) <;> (conv => whnf))
    | (refine RegX.rule (id := 8) hT rfl [] [(0, []), (1, []), (2, []), (3, []), (4, []), (5, [3, 4]), (6, [3, 4, 5]), (7, [3, 4, 5]), (8, [3, 4]), (9, [3, 4]), (10, [3, 4]), (11, []), (12, []), (13, [])] (by decide +kernel) ?_; conv => whnf)
    | omega
    | (refine And.intro ?_ ?_; ((try dsimp only); first | omega | (refine ⟨by omega, by omega, Int.le_trans (Int.mul_le_mul_of_nonneg_right (Int.ofNat_le.2 (Nat.le_of_ble_eq_true (rfl : Nat.ble _ 1024 = true))) (by omega)) (by omega), by omega⟩) | (refine Nat.le_trans (Nat.mul_le_mul_left _ (Nat.le_of_ble_eq_true (rfl : Nat.ble _ 1024 = true))) ?_; omega) | (unfold inI64; omega) | (constructor <;> omega) | (simp only [inI64, List.length_cons, List.length_append, List.length_nil, List.length_set] at *; omega) | decide | (unfold inI64; decide)); conv => whnf)
    | omega | decide | assumption)
  all_goals first
    | (refine ⟨i + 1, ⟨by omega, first_step p2 (by clear p2 hbad hk hx; simp only [e1, toNat_pred] at *; unfold gateE strLe; grind)⟩, by omega, (by refine Entails.mk' [] rfl rfl ?_ ?_ <;> repeat' (first | exact True.intro | exact SV.le_refl _ | exact Res.le_refl _ | exact SV.le_int (by omega) | exact SV.le_any _ | refine And.intro ?_ ?_))⟩)
    | (refine .ret _ ?_
       conv => whnf
       refine ⟨[], ⟨?_, rfl⟩, trivial⟩
       conv => lhs; whnf
       congr 2
       first
         | exact (hbad _ (by omega) (by decide) (by clear p2 hbad hk hx; simp only [e1, toNat_pred] at *; unfold gateE strLe; grind)).symm
         | (have : i = l.length := by omega
            subst this
            unfold gatesE; rw [if_neg (by omega), firstAt_zero p2]))
def plCh (c : UInt8) : Bool := (decide (65 ≤ c.toNat) && decide (c.toNat ≤ 90)) || (decide (48 ≤ c.toNat) && decide (c.toNat ≤ 57))
def isPlateB (s : List UInt8) : Bool := s.all plCh && decide (2 ≤ s.length) && decide (s.length ≤ 10)
-- word.IsPlate
theorem s185 (s : List UInt8) (hl : s.length ≤ 2^40) : FSpec Tryd.prog 185 [.d (.str s)] [] (fun x r => x = .d (.bool (isPlateB s)) ∧ r = []) := by
  refine spec_of hT (C := []) Tryd.func185 rfl Tryd.call185 rfl rfl rfl ?_
  conv => whnf
  refine LoopX.rule hT (C := []) (ι := Nat) (fun i => i ≤ s.length ∧ ∀ j, j < i → plCh (s.getD j 0) = true) (fun i => mkSt [(0, .d (.str s)), (6, .d (.int .i64 s.length)), (7, .d (.int .i64 i))] []) (fun i => s.length - i) 0 ⟨by omega, by omega⟩ (by refine Entails.mk' [] rfl rfl ?_ ?_ <;> repeat' (first | exact True.intro | exact SV.le_refl _ | exact Res.le_refl _ | exact SV.le_int (by omega) | exact SV.le_any _ | refine And.intro ?_ ?_)) ?_
  rintro i ⟨p1, p2⟩
  have e1 : (i : Int).toNat = i := Int.toNat_natCast i
  have hbad : i < s.length → plCh (s.getD i 0) = false → isPlateB s = false := fun hi h => by
    have : s.all plCh = false := by
      rw [List.all_eq_false]; exact ⟨s.getD i 0, getD_mem hi, by rw [h]; simp⟩
    simp only [isPlateB, this, Bool.false_and]
  have hall : i = s.length → s.all plCh = true := fun hi => by
    rw [List.all_eq_true]; intro c hc
    obtain ⟨j, hj, rfl⟩ := mem_getD (d := 0) hc
    exact p2 j (by omega)
  conv => whnf
  repeat' (first
    | (refine br_intro (fun hb => ?_) (fun hb => ?_) <;> (try simp only [decide_eq_true_eq, decide_eq_false_iff_not, Bool.not_eq_true', Bool.not_eq_false', Bool.and_eq_true, Bool.or_eq_true, beq_iff_eq, not_and, Int.not_le, Int.not_lt, Int.toNat_natCast, beq_eq_false_iff_ne, ne_eq, eq_self, not_true_eq_false, not_false_eq_true] at hb) <;> (conv => whnf))
    | omega
    | (refine And.intro ?_ ?_; ((try dsimp only); first | omega | (refine ⟨by omega, by omega, Int.le_trans (Int.mul_le_mul_of_nonneg_right (Int.ofNat_le.2 (Nat.le_of_ble_eq_true (rfl : Nat.ble _ 1024 = true))) (by omega)) (by omega), by omega⟩) | (refine Nat.le_trans (Nat.mul_le_mul_left _ (Nat.le_of_ble_eq_true (rfl : Nat.ble _ 1024 = true))) ?_; omega) | (unfold inI64; omega) | (constructor <;> omega) | (simp only [inI64, List.length_cons, List.length_append, List.length_nil, List.length_set] at *; omega) | decide | (unfold inI64; decide)); conv => whnf)
    | omega | decide | assumption)
  all_goals first
    | (refine ⟨i + 1, ⟨by omega, all_step p2 (by clear p2 hbad hall; simp only [e1] at *; simp only [plCh]; grind)⟩, by omega, (by refine Entails.mk' [] rfl rfl ?_ ?_ <;> repeat' (first | exact True.intro | exact SV.le_refl _ | exact Res.le_refl _ | exact SV.le_int (by omega) | exact SV.le_any _ | refine And.intro ?_ ?_))⟩)
    | (refine .ret _ ?_
       conv => whnf
       refine ⟨[], ⟨?_, rfl⟩, trivial⟩
       conv => lhs; whnf
       congr 2
       first
         | (rw [hbad (by omega) (by clear p2 hbad hall; simp only [e1] at *; simp only [plCh]; grind)])
         | (unfold isPlateB; rw [hall (by omega)]; clear p2 hbad hall; grind))
def cmpI (a b : Int) : Int := if a < b then -1 else if b < a then 1 else 0
def cmpS (a b : List UInt8) : Int := if Op.bytesLess a b = true then -1 else if Op.bytesLess b a = true then 1 else 0
-- cmp.Compare
theorem s210 (a : Int) : FSpec Tryd.prog 210 [.d (.int .i64 a)] [] (fun x r => x = .d (.bool false) ∧ r = []) := by
  refine spec_of hT (C := []) Tryd.func210 rfl Tryd.call210 rfl rfl rfl ?_
  conv => whnf
  refine .ret _ ?_
  conv => whnf
  refine ⟨[], ⟨?_, rfl⟩, trivial⟩
  conv => lhs; whnf
  simp
theorem s211 (a : List UInt8) : FSpec Tryd.prog 211 [.d (.str a)] [] (fun x r => x = .d (.bool false) ∧ r = []) := by
  refine spec_of hT (C := []) Tryd.func211 rfl Tryd.call211 rfl rfl rfl ?_
  conv => whnf
  refine .ret _ ?_
  conv => whnf
  refine ⟨[], ⟨?_, rfl⟩, trivial⟩
  conv => lhs; whnf
  simp
theorem s183 (a b : Int) : FSpec Tryd.prog 183 [.d (.int .i64 a), .d (.int .i64 b)] [] (fun x r => x = .d (.int .i64 (cmpI a b)) ∧ r = []) := by
  refine spec_of hT (C := []) Tryd.func183 rfl Tryd.call183 rfl rfl rfl ?_
  conv => whnf
  repeat' (first
    | (refine CallX.exact (s210 _) rfl rfl ?_; rotate_right; conv => whnf)
    | (refine br_intro (fun hb => ?_) (fun hb => ?_) <;> (try simp only [decide_eq_true_eq, decide_eq_false_iff_not, Bool.not_eq_true', Bool.not_eq_false', Bool.and_eq_true, Bool.or_eq_true, beq_iff_eq, not_and, Int.not_le, Int.not_lt, Int.toNat_natCast, beq_eq_false_iff_ne, ne_eq, eq_self, not_true_eq_false, not_false_eq_true] at hb) <;> (conv => whnf))
    | omega
    | (refine And.intro ?_ ?_; ((try dsimp only); first | omega | (refine ⟨by omega, by omega, Int.le_trans (Int.mul_le_mul_of_nonneg_right (Int.ofNat_le.2 (Nat.le_of_ble_eq_true (rfl : Nat.ble _ 1024 = true))) (by omega)) (by omega), by omega⟩) | (refine Nat.le_trans (Nat.mul_le_mul_left _ (Nat.le_of_ble_eq_true (rfl : Nat.ble _ 1024 = true))) ?_; omega) | (unfold inI64; omega) | (constructor <;> omega) | (simp only [inI64, List.length_cons, List.length_append, List.length_nil, List.length_set] at *; omega) | decide | (unfold inI64; decide)); conv => whnf)
    | omega | decide | assumption)
  all_goals
    refine .ret _ ?_
    conv => whnf
    refine ⟨[], ⟨?_, rfl⟩, trivial⟩
    conv => lhs; whnf
    congr 2; unfold cmpI; grind
theorem less_tri : ∀ (a b : List UInt8), Op.bytesLess a b = false → a ≠ b → Op.bytesLess b a = true := by
  intro a
  induction a with
  | nil => intro b h hn; cases b with
    | nil => exact absurd rfl hn
    | cons y ys => simp [Op.bytesLess] at h
  | cons x xs ih =>
    intro b h hn
    cases b with
    | nil => simp [Op.bytesLess]
    | cons y ys =>
      simp only [Op.bytesLess] at h ⊢
      grind
theorem s184 (a b : List UInt8) : FSpec Tryd.prog 184 [.d (.str a), .d (.str b)] [] (fun x r => x = .d (.int .i64 (cmpS a b)) ∧ r = []) := by
  refine spec_of hT (C := []) Tryd.func184 rfl Tryd.call184 rfl rfl rfl ?_
  conv => whnf
  repeat' (first
    | (refine CallX.exact (s211 _) rfl rfl ?_; rotate_right; conv => whnf)
    | (refine br_intro (fun hb => ?_) (fun hb => ?_) <;> (try simp only [decide_eq_true_eq, decide_eq_false_iff_not, Bool.not_eq_true', Bool.not_eq_false', Bool.and_eq_true, Bool.or_eq_true, beq_iff_eq, not_and, Int.not_le, Int.not_lt, Int.toNat_natCast, beq_eq_false_iff_ne, ne_eq, eq_self, not_true_eq_false, not_false_eq_true] at hb) <;> (conv => whnf))
    | omega
    | (refine And.intro ?_ ?_; ((try dsimp only); first | omega | (refine ⟨by omega, by omega, Int.le_trans (Int.mul_le_mul_of_nonneg_right (Int.ofNat_le.2 (Nat.le_of_ble_eq_true (rfl : Nat.ble _ 1024 = true))) (by omega)) (by omega), by omega⟩) | (refine Nat.le_trans (Nat.mul_le_mul_left _ (Nat.le_of_ble_eq_true (rfl : Nat.ble _ 1024 = true))) ?_; omega) | (unfold inI64; omega) | (constructor <;> omega) | (simp only [inI64, List.length_cons, List.length_append, List.length_nil, List.length_set] at *; omega) | decide | (unfold inI64; decide)); conv => whnf)
    | omega | decide | assumption)
  all_goals
    refine .ret _ ?_
    conv => whnf
    refine ⟨[], ⟨?_, rfl⟩, trivial⟩
    conv => lhs; whnf
    congr 2; unfold cmpS; grind [less_tri]
-- cmp.Or of numbers
theorem s182 (l : List Int) (hl : l.length ≤ 2^40) : FSpec Tryd.prog 182 [.d (ints l)] [] (fun x r => x = .d (.int .i64 (firstE l)) ∧ r = []) := by
  refine spec_of hT (C := []) Tryd.func182 rfl Tryd.call182 rfl rfl rfl ?_
  conv => whnf
  refine LoopX.rule hT (C := []) (ι := Nat) (fun i => i ≤ l.length ∧ firstE l = firstE (l.drop i)) (fun i => mkSt [(3, .d (.int .i64 0)), (6, .d (ints l)), (7, .d (.int .i64 l.length)), (8, .d (.int .i64 i))] []) (fun i => l.length - i) 0 ⟨by omega, by simp⟩ (by refine Entails.mk' [] rfl rfl ?_ ?_ <;> repeat' (first | exact True.intro | exact SV.le_refl _ | exact Res.le_refl _ | exact SV.le_int (by omega) | exact SV.le_any _ | refine And.intro ?_ ?_)) ?_
  rintro i ⟨p1, p2⟩
  have hd : i < l.length → l.drop i = l.getD i 0 :: l.drop (i + 1) := fun hi => by rw [List.drop_eq_getElem_cons hi, List.getD_eq_getElem?_getD, List.getElem?_eq_getElem hi]; rfl
  conv => whnf
  repeat' (first
    | (refine br_intro (fun hb => ?_) (fun hb => ?_) <;> (try simp only [decide_eq_true_eq, decide_eq_false_iff_not, Bool.not_eq_true', Bool.not_eq_false', Bool.and_eq_true, Bool.or_eq_true, beq_iff_eq, not_and, Int.not_le, Int.not_lt, Int.toNat_natCast, beq_eq_false_iff_ne, ne_eq, eq_self, not_true_eq_false, not_false_eq_true] at hb) <;> (conv => whnf))
    | omega
    | (refine And.intro ?_ ?_; ((try dsimp only); first | omega | (refine ⟨by omega, by omega, Int.le_trans (Int.mul_le_mul_of_nonneg_right (Int.ofNat_le.2 (Nat.le_of_ble_eq_true (rfl : Nat.ble _ 1024 = true))) (by omega)) (by omega), by omega⟩) | (refine Nat.le_trans (Nat.mul_le_mul_left _ (Nat.le_of_ble_eq_true (rfl : Nat.ble _ 1024 = true))) ?_; omega) | (unfold inI64; omega) | (constructor <;> omega) | (simp only [inI64, List.length_cons, List.length_append, List.length_nil, List.length_set] at *; omega) | decide | (unfold inI64; decide)); conv => whnf)
    | omega | decide | assumption)
  · refine .ret _ ?_
    conv => whnf
    refine ⟨[], ⟨?_, rfl⟩, trivial⟩
    conv => lhs; whnf
    congr 2; rw [p2, hd (by omega), firstE, if_neg hb, Int.toNat_natCast]
  · exact ⟨i + 1, ⟨by omega, by rw [p2, hd (by omega), firstE, if_pos hb]⟩, by omega, (by refine Entails.mk' [] rfl rfl ?_ ?_ <;> repeat' (first | exact True.intro | exact SV.le_refl _ | exact Res.le_refl _ | exact SV.le_int (by omega) | exact SV.le_any _ | refine And.intro ?_ ?_))⟩
  · refine .ret _ ?_
    conv => whnf
    refine ⟨[], ⟨?_, rfl⟩, trivial⟩
    conv => lhs; whnf
    congr 2; rw [p2, List.drop_eq_nil_iff.2 (by omega)]; rfl
def pasCmp (a b : Pas) : Int := firstE [cmpI a.tm b.tm, cmpS a.gate b.gate, cmpS a.plate b.plate]
-- toll.order
theorem s150 (a b : Pas) : FSpec Tryd.prog 150 [.agg ((paF a).map .d), .agg ((paF b).map .d)] [] (fun x r => x = .d (.int .i64 (pasCmp a b)) ∧ r = []) := by
  refine spec_of hT (C := []) Tryd.func150 rfl Tryd.call150 rfl rfl rfl ?_
  conv => whnf
  repeat' (first
    | (refine CallX.exact (s183 _ _) rfl rfl ?_; rotate_right; conv => whnf)
    | (refine CallX.exact (s184 _ _) rfl rfl ?_; rotate_right; conv => whnf)
    | (refine CallX.pure (s182 [_, _, _] (by simp)) ⟨SV.le_lit rfl rfl, trivial⟩ rfl ?_; conv => whnf)
    | (refine br_intro (fun hb => ?_) (fun hb => ?_) <;> (try simp only [decide_eq_true_eq, decide_eq_false_iff_not, Bool.not_eq_true', Bool.not_eq_false', Bool.and_eq_true, Bool.or_eq_true, beq_iff_eq, not_and, Int.not_le, Int.not_lt, Int.toNat_natCast, beq_eq_false_iff_ne, ne_eq, eq_self, not_true_eq_false, not_false_eq_true] at hb) <;> (conv => whnf))
    | (refine RegX.rule (id := 1) hT rfl [] [(0, []), (1, []), (2, [0, 1]), (3, [0, 1]), (5, [0, 1, 2, 3]), (6, [0, 1, 2, 3]), (7, [0, 1, 2, 3, 5, 6]), (8, [0, 1, 2, 3, 5, 6]), (10, [0, 1, 2, 3, 5, 6, 7, 8]), (11, [0, 1, 2, 3, 5, 6, 7, 8]), (12, [0, 1, 2, 3, 5, 6, 7, 8, 10, 11]), (13, [0, 1, 2, 3, 5, 6, 7, 8, 10, 11]), (4, [5, 6, 7, 8, 10, 11, 12, 13]), (9, [10, 11, 12, 13]), (14, []), (15, []), (16, []), (17, [])] (by decide +kernel) ?_; conv => whnf)
    | omega
    | (refine And.intro ?_ ?_; ((try dsimp only); first | omega | (refine ⟨by omega, by omega, Int.le_trans (Int.mul_le_mul_of_nonneg_right (Int.ofNat_le.2 (Nat.le_of_ble_eq_true (rfl : Nat.ble _ 1024 = true))) (by omega)) (by omega), by omega⟩) | (refine Nat.le_trans (Nat.mul_le_mul_left _ (Nat.le_of_ble_eq_true (rfl : Nat.ble _ 1024 = true))) ?_; omega) | (unfold inI64; omega) | (constructor <;> omega) | (simp only [inI64, List.length_cons, List.length_append, List.length_nil, List.length_set] at *; omega) | decide | (unfold inI64; decide)); conv => whnf)
    | omega | decide | assumption)
  all_goals
    refine .ret _ ?_
    conv => whnf
    refine ⟨[], ⟨?_, rfl⟩, trivial⟩
    conv => lhs; whnf
    rfl
end Go.Proofs.YtellmmmohdjpeaaDoor
set_option maxRecDepth 20000
namespace Go.Proofs.YtellmmmohdjpeaaDoor
open Go Go.Eng
/-- The first place at which something holds, or -1. -/
def ixF (p : Nat → Bool) : Nat → Int
  | 0 => -1
  | n + 1 => if ixF p n = -1 then (if p n = true then n else -1) else ixF p n
theorem ixF_none {p : Nat → Bool} : ∀ {n : Nat}, (∀ j, j < n → p j = false) → ixF p n = -1 := by
  intro n
  induction n with
  | zero => intro _; rfl
  | succ n ih => intro h; rw [ixF, if_pos (ih fun j hj => h j (by omega)), h n (by omega)]; rfl
theorem ixF_hit {p : Nat → Bool} {n i : Nat} (hi : i < n) (h : ∀ j, j < i → p j = false) (h1 : p i = true) : ixF p n = i := by
  induction n with
  | zero => omega
  | succ n ih =>
    rw [ixF]
    by_cases q : i < n
    · rw [ih q, if_neg (by omega)]
    · have : i = n := by omega
      subst this
      rw [if_pos (ixF_none h), if_pos h1]
theorem ixF_bd {p : Nat → Bool} : ∀ {n : Nat}, -1 ≤ ixF p n ∧ ixF p n < n ∧ (0 ≤ ixF p n → p (ixF p n).toNat = true) := by
  intro n
  induction n with
  | zero => simp [ixF]
  | succ n ih =>
    rw [ixF]
    split
    · split
      · rename_i h; exact ⟨by omega, by omega, fun _ => by simpa using h⟩
      · exact ⟨by omega, by omega, fun h => by omega⟩
    · exact ⟨ih.1, by omega, ih.2.2⟩
def gateIx (l : List Gate) (key : List UInt8) : Int := ixF (fun i => (l.getD i g0).key == key) l.length
def kcell (key : List UInt8) : Res := .cells 9 [.d (.str key)]
theorem s187 (g : Gate) (key : List UInt8) : FSpec Tryd.prog 187 [.agg ((gF g).map .d), .ptr 1000001 0] [(1000001, kcell key)] (fun x r => x = .d (.bool (g.key == key)) ∧ r = [(1000001, kcell key)]) := by
  refine spec_of hT (C := []) Tryd.func187 rfl Tryd.call187 rfl rfl rfl ?_
  conv => whnf
  refine .ret _ ?_
  conv => whnf
  exact ⟨[(1000001, kcell key)], ⟨rfl, rfl⟩, Res.le_refl _, trivial⟩
theorem s186 (l : List Gate) (hl : l.length ≤ 2^40) (key : List UInt8) : FSpec Tryd.prog 186 [.d (gates l), .fn 187 [.ptr 1000001 0]] [(1000001, kcell key)] (fun x r => x = .d (.int .i64 (gateIx l key)) ∧ r = [(1000001, kcell key)]) := by
  refine spec_of hT (C := []) Tryd.func186 rfl Tryd.call186 rfl rfl rfl ?_
  conv => whnf
  refine LoopX.rule hT (C := []) (ι := Nat) (fun i => i ≤ l.length ∧ ∀ j, j < i → ((l.getD j g0).key == key) = false) (fun i => mkSt [(0, .d (gates l)), (1, .fn 187 [.ptr 1000001 0]), (7, .d (.int .i64 l.length)), (8, .d (.int .i64 i))] [(1000001, kcell key)]) (fun i => l.length - i) 0 ⟨by omega, by omega⟩ (by refine Entails.mk' [(1000001, 1000001)] rfl rfl ?_ ?_ <;> repeat' (first | exact True.intro | exact SV.le_refl _ | exact Res.le_refl _ | exact SV.le_int (by omega) | exact SV.le_any _ | refine And.intro ?_ ?_)) ?_
  rintro i ⟨p1, p2⟩
  have e1 : (i : Int).toNat = i := Int.toNat_natCast i
  conv => whnf
  repeat' (first
    | (refine CallX.of (s187 (l.getD (i : Int).toNat g0) key) [(1000001, 1000001)] rfl ⟨SV.le_refl _, SV.le_refl _, trivial⟩ ⟨Res.le_refl _, trivial⟩ rfl rfl ?_; rintro x rout ⟨rfl, rfl⟩; refine ⟨rfl, ?_⟩; conv => whnf)
    | (refine br_intro (fun hb => ?_) (fun hb => ?_) <;> (try simp only [decide_eq_true_eq, decide_eq_false_iff_not, Bool.not_eq_true', Bool.not_eq_false', Bool.and_eq_true, Bool.or_eq_true, beq_iff_eq, not_and, Int.not_le, Int.not_lt, Int.toNat_natCast, beq_eq_false_iff_ne, ne_eq, eq_self, not_true_eq_false, not_false_eq_true] at hb) <;> (conv => whnf))
    | omega
    | (refine And.intro ?_ ?_; ((try dsimp only); first | omega | (refine ⟨by omega, by omega, Int.le_trans (Int.mul_le_mul_of_nonneg_right (Int.ofNat_le.2 (Nat.le_of_ble_eq_true (rfl : Nat.ble _ 1024 = true))) (by omega)) (by omega), by omega⟩) | (refine Nat.le_trans (Nat.mul_le_mul_left _ (Nat.le_of_ble_eq_true (rfl : Nat.ble _ 1024 = true))) ?_; omega) | (unfold inI64; omega) | (constructor <;> omega) | (simp only [inI64, List.length_cons, List.length_append, List.length_nil, List.length_set] at *; omega) | decide | (unfold inI64; decide)); conv => whnf)
    | omega | decide | assumption)
  · refine .ret _ ?_
    conv => whnf
    refine ⟨[(1000001, kcell key)], ⟨?_, rfl⟩, Res.le_refl _, trivial⟩
    conv => lhs; whnf
    congr 2
    exact (ixF_hit (by omega) p2 (by simpa using hb)).symm
  · exact ⟨i + 1, ⟨by omega, all_step p2 (by simpa using hb)⟩, by omega, (by refine Entails.mk' [(1000001, 1000001)] rfl rfl ?_ ?_ <;> repeat' (first | exact True.intro | exact SV.le_refl _ | exact Res.le_refl _ | exact SV.le_int (by omega) | exact SV.le_any _ | refine And.intro ?_ ?_))⟩
  · refine .ret _ ?_
    conv => whnf
    refine ⟨[(1000001, kcell key)], ⟨?_, rfl⟩, Res.le_refl _, trivial⟩
    conv => lhs; whnf
    congr 2
    have : i = l.length := by omega
    subst this
    exact (ixF_none p2).symm
-- toll.gateAt
theorem s153 (l : List Gate) (hl : l.length ≤ 2^40) (key : List UInt8) : FSpec Tryd.prog 153 [.d (gates l), .d (.str key)] [] (fun x r => x = .d (.int .i64 (gateIx l key)) ∧ r = []) := by
  refine spec_of hT (C := []) Tryd.func153 rfl Tryd.call153 rfl rfl rfl ?_
  conv => whnf
  refine CallX.of (s186 l hl key) [(1000001, 3)] rfl ⟨SV.le_refl _, SV.le_refl _, trivial⟩ ⟨Res.le_refl _, trivial⟩ rfl rfl ?_
  rintro x rout ⟨rfl, rfl⟩
  refine ⟨rfl, ?_⟩
  conv => whnf
  refine .ret _ ?_
  conv => whnf
  refine ⟨[], ⟨?_, rfl⟩, trivial⟩
  conv => lhs; whnf
-- word.IsMoment
theorem s154 (n : Int) : FSpec Tryd.prog 154 [.d (.int .i64 n)] [] (fun x r => x = .d (.bool (decide (0 ≤ n ∧ n ≤ 5761439))) ∧ r = []) := by
  refine spec_of hT (C := []) Tryd.func154 rfl Tryd.call154 rfl rfl rfl ?_
  conv => whnf
  repeat' (first
    | (refine CallX.exact (s119 _ _ _) rfl rfl ?_; rotate_right; conv => whnf)
    | (refine br_intro (fun hb => ?_) (fun hb => ?_) <;> (try simp only [decide_eq_true_eq, decide_eq_false_iff_not, Bool.not_eq_true', Bool.not_eq_false', Bool.and_eq_true, Bool.or_eq_true, beq_iff_eq, not_and, Int.not_le, Int.not_lt, Int.toNat_natCast, beq_eq_false_iff_ne, ne_eq, eq_self, not_true_eq_false, not_false_eq_true] at hb) <;> (conv => whnf))
    | omega
    | (refine And.intro ?_ ?_; ((try dsimp only); first | omega | (refine ⟨by omega, by omega, Int.le_trans (Int.mul_le_mul_of_nonneg_right (Int.ofNat_le.2 (Nat.le_of_ble_eq_true (rfl : Nat.ble _ 1024 = true))) (by omega)) (by omega), by omega⟩) | (refine Nat.le_trans (Nat.mul_le_mul_left _ (Nat.le_of_ble_eq_true (rfl : Nat.ble _ 1024 = true))) ?_; omega) | (unfold inI64; omega) | (constructor <;> omega) | (simp only [inI64, List.length_cons, List.length_append, List.length_nil, List.length_set] at *; omega) | decide | (unfold inI64; decide)); conv => whnf)
    | omega | decide | assumption)
  refine .ret _ ?_
  conv => whnf
  refine ⟨[], ⟨?_, rfl⟩, trivial⟩
  conv => lhs; whnf
def trueT (l : List Gate) (p : Pas) : Int := p.tm - (l.getD (gateIx l p.gate).toNat g0).clock
-- toll.trueTime
theorem s155 (l : List Gate) (hl : l.length ≤ 2^40) (p : Pas) (hp : -2^40 ≤ p.tm ∧ p.tm ≤ 2^40) (hg : ∀ g ∈ l, -2^40 ≤ g.clock ∧ g.clock ≤ 2^40) (h0 : 0 ≤ gateIx l p.gate) :
    FSpec Tryd.prog 155 [.d (gates l), .agg ((paF p).map .d)] [] (fun x r => x = .d (.int .i64 (trueT l p)) ∧ r = []) := by
  have hb := (ixF_bd (p := fun i => (l.getD i g0).key == p.gate) (n := l.length))
  have hb1 : gateIx l p.gate < l.length := hb.2.1
  have hc := hg (l.getD (gateIx l p.gate).toNat g0) (getD_mem (by omega))
  refine spec_of hT (C := []) Tryd.func155 rfl Tryd.call155 rfl rfl rfl ?_
  conv => whnf
  repeat' (first
    | (refine CallX.exact (s153 l hl _) rfl rfl ?_; rotate_right; conv => whnf)
    | (refine br_intro (fun hb => ?_) (fun hb => ?_) <;> (try simp only [decide_eq_true_eq, decide_eq_false_iff_not, Bool.not_eq_true', Bool.not_eq_false', Bool.and_eq_true, Bool.or_eq_true, beq_iff_eq, not_and, Int.not_le, Int.not_lt, Int.toNat_natCast, beq_eq_false_iff_ne, ne_eq, eq_self, not_true_eq_false, not_false_eq_true] at hb) <;> (conv => whnf))
    | (refine RegX.rule (id := 1) hT rfl [] [(0, []), (1, []), (2, [0, 1]), (3, [0, 1, 2]), (4, [0, 1, 2, 3]), (5, [0, 1, 2, 3]), (6, [0, 1, 2]), (7, [0, 1]), (8, [0, 1]), (9, [0, 1]), (10, []), (11, [])] (by decide +kernel) ?_; conv => whnf)
    | omega
    | (refine And.intro ?_ ?_; ((try dsimp only); first | omega | (refine ⟨by omega, by omega, Int.le_trans (Int.mul_le_mul_of_nonneg_right (Int.ofNat_le.2 (Nat.le_of_ble_eq_true (rfl : Nat.ble _ 1024 = true))) (by omega)) (by omega), by omega⟩) | (refine Nat.le_trans (Nat.mul_le_mul_left _ (Nat.le_of_ble_eq_true (rfl : Nat.ble _ 1024 = true))) ?_; omega) | (unfold inI64; omega) | (constructor <;> omega) | (simp only [inI64, List.length_cons, List.length_append, List.length_nil, List.length_set] at *; omega) | decide | (unfold inI64; decide)); conv => whnf)
    | omega | decide | assumption)
  refine .ret _ ?_
  conv => whnf
  refine ⟨[], ⟨?_, rfl⟩, trivial⟩
  conv => lhs; whnf
  rfl
def pasE (l : List Pas) (i : Nat) : Int :=
  if ¬ (0 ≤ (l.getD i pa0).tm ∧ (l.getD i pa0).tm ≤ 5761439) then 1 else if isKeyB (l.getD i pa0).gate = false then 5 else if isPlateB (l.getD i pa0).plate = false then 3
  else if ¬ (0 ≤ (l.getD i pa0).cents ∧ (l.getD i pa0).cents ≤ 1000000) then 1 else if 0 < i ∧ 0 ≤ pasCmp (l.getD (i - 1) pa0) (l.getD i pa0) then 7 else 0
def formE (l : List Pas) : Int := if 1000 < l.length then 2 else firstAt (pasE l) l.length
def pOk (l : List Pas) : Prop := l.length ≤ 2^40 ∧ ∀ p ∈ l, p.gate.length ≤ 2^40 ∧ p.plate.length ≤ 2^40
-- toll.formed
theorem s152 (l : List Pas) (hk : pOk l) : FSpec Tryd.prog 152 [.d (pass l)] [] (fun x r => x = .d (.int .i64 (formE l)) ∧ r = []) := by
  refine spec_of hT (C := []) Tryd.func152 rfl Tryd.call152 rfl rfl rfl ?_
  conv => whnf
  refine br_intro (fun h0 => ?_) (fun h0 => ?_)
  · simp at h0
    conv => whnf
    refine .ret _ ?_
    conv => whnf
    refine ⟨[], ⟨?_, rfl⟩, trivial⟩
    conv => lhs; whnf
    unfold formE; rw [if_pos (by omega)]
  simp at h0
  conv => whnf
  refine LoopX.rule hT (C := []) (ι := Nat) (fun i => i ≤ l.length ∧ ∀ j, j < i → pasE l j = 0) (fun i => mkSt [(0, .d (pass l)), (8, .d (pass l)), (9, .d (.int .i64 l.length)), (10, .d (.int .i64 i))] []) (fun i => l.length - i) 0 ⟨by omega, by omega⟩ (by refine Entails.mk' [] rfl rfl ?_ ?_ <;> repeat' (first | exact True.intro | exact SV.le_refl _ | exact Res.le_refl _ | exact SV.le_int (by omega) | exact SV.le_any _ | refine And.intro ?_ ?_)) ?_
  rintro i ⟨p1, p2⟩
  have hx : (i : Int) < l.length → (l.getD (i : Int).toNat pa0).gate.length ≤ 2^40 ∧ (l.getD (i : Int).toNat pa0).plate.length ≤ 2^40 := fun hi => hk.2 _ (getD_mem (by omega))
  have e1 : (i : Int).toNat = i := Int.toNat_natCast i
  have hbad : ∀ e : Int, i < l.length → e ≠ 0 → pasE l i = e → formE l = e := fun e h h1 h2 => by
    unfold formE; rw [if_neg (by omega)]
    exact firstAt_eq h p2 h1 h2
  conv => whnf
  repeat' (first
    | (refine CallX.exact (s154 _) rfl rfl ?_; rotate_right; conv => whnf)
    | (refine CallX.exact (s108 _ (hx (by omega)).1) rfl rfl ?_; rotate_right; conv => whnf)
    | (refine CallX.exact (s185 _ (hx (by omega)).2) rfl rfl ?_; rotate_right; conv => whnf)
    | (refine CallX.exact (s119 _ _ _) rfl rfl ?_; rotate_right; conv => whnf)
    | (refine CallX.exact (s150 (l.getD ((i : Int) - 1).toNat pa0) (l.getD (i : Int).toNat pa0)) rfl rfl ?_; rotate_right; conv => whnf)
    | (refine br_intro (fun hb => ?_) (fun hb => ?_) <;> (try simp only [decide_eq_true_eq, decide_eq_false_iff_not, Bool.not_eq_true', Bool.not_eq_false', Bool.and_eq_true, Bool.or_eq_true, beq_iff_eq, not_and, Int.not_le, Int.not_lt, Int.toNat_natCast, beq_eq_false_iff_ne, ne_eq, eq_self, not_true_eq_false, not_false_eq_true] at hb) <;> (conv => whnf))
    | (refine RegX.rule (id := 14) hT rfl [] [(0, []), (1, []), (2, []), (3, []), (4, [3]), (5, [3]), (6, []), (7, []), (8, [3, 4, 5, 6, 7]), (9, []), (10, []), (11, []), (12, [])] (by decide +kernel) ?_; conv => whnf)
    | omega
    | (refine And.intro ?_ ?_; ((try dsimp only); first | omega | (refine ⟨by omega, by omega, Int.le_trans (Int.mul_le_mul_of_nonneg_right (Int.ofNat_le.2 (Nat.le_of_ble_eq_true (rfl : Nat.ble _ 1024 = true))) (by omega)) (by omega), by omega⟩) | (refine Nat.le_trans (Nat.mul_le_mul_left _ (Nat.le_of_ble_eq_true (rfl : Nat.ble _ 1024 = true))) ?_; omega) | (unfold inI64; omega) | (constructor <;> omega) | (simp only [inI64, List.length_cons, List.length_append, List.length_nil, List.length_set] at *; omega) | decide | (unfold inI64; decide)); conv => whnf)
    | omega | decide | assumption)
  all_goals first
    | (refine ⟨i + 1, ⟨by omega, first_step p2 (by clear p2 hbad hk hx; simp only [e1, toNat_pred] at *; unfold pasE; grind)⟩, by omega, (by refine Entails.mk' [] rfl rfl ?_ ?_ <;> repeat' (first | exact True.intro | exact SV.le_refl _ | exact Res.le_refl _ | exact SV.le_int (by omega) | exact SV.le_any _ | refine And.intro ?_ ?_))⟩)
    | (refine .ret _ ?_
       conv => whnf
       refine ⟨[], ⟨?_, rfl⟩, trivial⟩
       conv => lhs; whnf
       congr 2
       first
         | exact (hbad _ (by omega) (by decide) (by clear p2 hbad hk hx; simp only [e1, toNat_pred] at *; unfold pasE; grind)).symm
         | (have : i = l.length := by omega
            subst this
            unfold formE; rw [if_neg (by omega), firstAt_zero p2]))
end Go.Proofs.YtellmmmohdjpeaaDoor
set_option maxRecDepth 20000
namespace Go.Proofs.YtellmmmohdjpeaaDoor
open Go Go.Eng
def onG (g : List Gate) (l : List Pas) (i : Nat) : Int :=
  if gateIx g (l.getD i pa0).gate < 0 then 8 else if ¬ (0 ≤ trueT g (l.getD i pa0) ∧ trueT g (l.getD i pa0) ≤ 5761439) then 16 else 0
def chkE (g : List Gate) (l : List Pas) : Int := if gatesE g ≠ 0 then gatesE g else if formE l ≠ 0 then formE l else firstAt (onG g l) l.length
theorem gates_zero {l : List Gate} (h : gatesE l = 0) : l.length ≤ 200 ∧ ∀ g ∈ l, -1440 ≤ g.clock ∧ g.clock ≤ 1440 := by
  unfold gatesE at h
  split at h
  · omega
  · refine ⟨by omega, fun x hx => ?_⟩
    obtain ⟨j, hj, rfl⟩ := mem_getD (d := g0) hx
    have := firstAt_all h j hj
    unfold gateE at this
    grind
theorem form_zero {l : List Pas} (h : formE l = 0) : l.length ≤ 1000 ∧ ∀ p ∈ l, 0 ≤ p.tm ∧ p.tm ≤ 5761439 := by
  unfold formE at h
  split at h
  · omega
  · refine ⟨by omega, fun x hx => ?_⟩
    obtain ⟨j, hj, rfl⟩ := mem_getD (d := pa0) hx
    have := firstAt_all h j hj
    unfold pasE at this
    grind
-- toll.Check
theorem s90 (g : List Gate) (l : List Pas) (hg : gOk g) (hl : pOk l) : FSpec Tryd.prog 90 [.d (gates g), .d (pass l)] [] (fun x r => x = .d (.int .i64 (chkE g l)) ∧ r = []) := by
  have hF : firstE [gatesE g, formE l] = if gatesE g ≠ 0 then gatesE g else formE l := by
    simp only [firstE]; grind
  refine spec_of hT (C := []) Tryd.func90 rfl Tryd.call90 rfl rfl rfl ?_
  conv => whnf
  repeat' (first
    | (refine CallX.exact (s88 g hg) rfl rfl ?_; rotate_right; conv => whnf)
    | (refine CallX.exact (s152 l hl) rfl rfl ?_; rotate_right; conv => whnf)
    | (refine CallX.pure (s105 [_, _] (by simp)) ⟨SV.le_lit (by rfl) (by rfl), trivial⟩ rfl ?_; conv => whnf)
    | (refine br_intro (fun hb => ?_) (fun hb => ?_) <;> (try simp only [decide_eq_true_eq, decide_eq_false_iff_not, Bool.not_eq_true', Bool.not_eq_false', Bool.and_eq_true, Bool.or_eq_true, beq_iff_eq, not_and, Int.not_le, Int.not_lt, Int.toNat_natCast, beq_eq_false_iff_ne, ne_eq, eq_self, not_true_eq_false, not_false_eq_true] at hb) <;> (conv => whnf))
    | omega
    | (refine And.intro ?_ ?_; ((try dsimp only); first | omega | (refine ⟨by omega, by omega, Int.le_trans (Int.mul_le_mul_of_nonneg_right (Int.ofNat_le.2 (Nat.le_of_ble_eq_true (rfl : Nat.ble _ 1024 = true))) (by omega)) (by omega), by omega⟩) | (refine Nat.le_trans (Nat.mul_le_mul_left _ (Nat.le_of_ble_eq_true (rfl : Nat.ble _ 1024 = true))) ?_; omega) | (unfold inI64; omega) | (constructor <;> omega) | (simp only [inI64, List.length_cons, List.length_append, List.length_nil, List.length_set] at *; omega) | decide | (unfold inI64; decide)); conv => whnf)
    | omega | decide | assumption)
  · refine .ret _ ?_
    conv => whnf
    refine ⟨[], ⟨?_, rfl⟩, trivial⟩
    conv => lhs; whnf
    congr 2; unfold chkE; rw [hF] at hb ⊢; grind
  rw [hF] at hb
  have hb1 : gatesE g = 0 := by grind
  have hb2 : formE l = 0 := by grind
  obtain ⟨n1, n2⟩ := gates_zero hb1
  obtain ⟨n3, n4⟩ := form_zero hb2
  have hE : chkE g l = firstAt (onG g l) l.length := by unfold chkE; rw [if_neg (by omega), if_neg (by omega)]
  rw [hE]
  refine LoopX.rule hT (C := []) (ι := Nat) (fun i => i ≤ l.length ∧ ∀ j, j < i → onG g l j = 0) (fun i => mkSt [(0, .d (gates g)), (17, .d (pass l)), (18, .d (.int .i64 l.length)), (19, .d (.int .i64 i))] []) (fun i => l.length - i) 0 ⟨by omega, by omega⟩ (by refine Entails.mk' [] rfl rfl ?_ ?_ <;> repeat' (first | exact True.intro | exact SV.le_refl _ | exact Res.le_refl _ | exact SV.le_int (by omega) | exact SV.le_any _ | refine And.intro ?_ ?_)) ?_
  rintro i ⟨p1, p2⟩
  have e1 : (i : Int).toNat = i := Int.toNat_natCast i
  have hp : (i : Int) < l.length → 0 ≤ (l.getD (i : Int).toNat pa0).tm ∧ (l.getD (i : Int).toNat pa0).tm ≤ 5761439 := fun hi => n4 _ (getD_mem (by omega))
  have hbad : ∀ e : Int, i < l.length → e ≠ 0 → onG g l i = e → firstAt (onG g l) l.length = e := fun e h h1 h2 => firstAt_eq h p2 h1 h2
  conv => whnf
  repeat' (first
    | (refine CallX.exact (s153 g hg.1 _) rfl rfl ?_; rotate_right; conv => whnf)
    | (refine CallX.exact (s155 g hg.1 (l.getD (i : Int).toNat pa0) ?_ ?_ ?_) rfl rfl ?_; rotate_right; conv => whnf)
    | (refine CallX.exact (s154 _) rfl rfl ?_; rotate_right; conv => whnf)
    | (refine br_intro (fun hb => ?_) (fun hb => ?_) <;> (try simp only [decide_eq_true_eq, decide_eq_false_iff_not, Bool.not_eq_true', Bool.not_eq_false', Bool.and_eq_true, Bool.or_eq_true, beq_iff_eq, not_and, Int.not_le, Int.not_lt, Int.toNat_natCast, beq_eq_false_iff_ne, ne_eq, eq_self, not_true_eq_false, not_false_eq_true] at hb) <;> (conv => whnf))
    | omega
    | (refine And.intro ?_ ?_; ((try dsimp only); first | omega | (refine ⟨by omega, by omega, Int.le_trans (Int.mul_le_mul_of_nonneg_right (Int.ofNat_le.2 (Nat.le_of_ble_eq_true (rfl : Nat.ble _ 1024 = true))) (by omega)) (by omega), by omega⟩) | (refine Nat.le_trans (Nat.mul_le_mul_left _ (Nat.le_of_ble_eq_true (rfl : Nat.ble _ 1024 = true))) ?_; omega) | (unfold inI64; omega) | (constructor <;> omega) | (simp only [inI64, List.length_cons, List.length_append, List.length_nil, List.length_set] at *; omega) | decide | (unfold inI64; decide)); conv => whnf)
    | omega | decide | assumption)
  all_goals try (first | omega | (intro q hq; have := n2 q hq; omega) | (rw [Int.toNat_natCast]; omega))
  all_goals first
    | (refine ⟨i + 1, ⟨by omega, first_step p2 (by clear p2 hbad; simp only [e1] at *; unfold onG; grind)⟩, by omega, (by refine Entails.mk' [] rfl rfl ?_ ?_ <;> repeat' (first | exact True.intro | exact SV.le_refl _ | exact Res.le_refl _ | exact SV.le_int (by omega) | exact SV.le_any _ | refine And.intro ?_ ?_))⟩)
    | (refine .ret _ ?_
       conv => whnf
       refine ⟨[], ⟨?_, rfl⟩, trivial⟩
       conv => lhs; whnf
       congr 2
       first
         | exact (hbad _ (by omega) (by decide) (by clear p2 hbad; simp only [e1] at *; unfold onG; grind)).symm
         | (have : i = l.length := by omega
            subst this
            rw [firstAt_zero p2]))
/- Doubles. -/
abbrev Seen := List UInt8 × List UInt8
def dblOf (D : Int) (m : Seen → Option Int) (p : Pas) : Bool :=
  match m (p.plate, p.gate) with
  | some t => decide (p.tm - t < D)
  | none => false
def dblM (D : Int) (l : List Pas) : Nat → Seen → Option Int
  | 0 => fun _ => none
  | i + 1 => if dblOf D (dblM D l i) (l.getD i pa0) = true then dblM D l i else fun q => if q = ((l.getD i pa0).plate, (l.getD i pa0).gate) then some (l.getD i pa0).tm else dblM D l i q
def dblB (D : Int) (l : List Pas) (i : Nat) : Bool := dblOf D (dblM D l i) (l.getD i pa0)
def fillA {α : Type} (d : α) (f : Nat → α) (n i : Nat) : List α := (List.range n).map fun j => if j < i then f j else d
theorem fillA_length {α : Type} {d : α} {f : Nat → α} {n i : Nat} : (fillA d f n i).length = n := by simp [fillA]
theorem fillA_set {α : Type} {d : α} {f : Nat → α} {n i : Nat} {x : α} (hx : x = f i) : (fillA d f n i).set i x = fillA d f n (i + 1) := by
  subst hx
  refine List.ext_getElem (by simp [fillA]) (fun j h1 h2 => ?_)
  simp only [fillA, List.getElem_set, List.getElem_map, List.getElem_range]
  by_cases h : i = j
  · subst h; simp
  · rw [if_neg h]
    by_cases h3 : j < i
    · rw [if_pos h3, if_pos (by omega)]
    · rw [if_neg h3, if_neg (by omega)]
theorem fillA_set' {α : Type} {d : α} {f : Nat → α} {n i : Nat} {x : α} (hx : x = f i) : (fillA d f n i).set (i : Int).toNat x = fillA d f n (i + 1) := by
  rw [Int.toNat_natCast]; exact fillA_set hx
theorem dblB_eq {D : Int} {l : List Pas} {i : Nat} : dblB D l i = ((dblM D l i ((l.getD i pa0).plate, (l.getD i pa0).gate)).isSome && decide ((l.getD i pa0).tm - (dblM D l i ((l.getD i pa0).plate, (l.getD i pa0).gate)).getD 0 < D)) := by
  unfold dblB dblOf
  cases dblM D l i ((l.getD i pa0).plate, (l.getD i pa0).gate) <;> simp
def bF : Bool → List DV := fun b => [.bool b]
def mHas (m : Seen → Option Int) : List DV → Bool
  | [.str a, .str b] => (m (a, b)).isSome
  | _ => false
def mVal (m : Seen → Option Int) : List DV → List DV
  | [.str a, .str b] => [.int .i64 ((m (a, b)).getD 0)]
  | _ => [.int .i64 0]
theorem wk_ss {key : List DV} (h : wk [.str, .str] key = true) : ∃ a b, key = [.str a, .str b] := by
  cases key with
  | nil => simp [wk] at h
  | cons x xs =>
    cases xs with
    | nil => simp [wk] at h
    | cons y ys =>
      cases ys with
      | cons z zs => simp [wk] at h
      | nil =>
        simp [wk] at h
        cases x <;> simp [wk1] at h
        cases y <;> simp [wk1] at h
        exact ⟨_, _, rfl⟩
abbrev seenR (m : Seen → Option Int) : Res := .map true false [.str, .str] [.int .i64 0] (mHas m) (mVal m)
theorem dblM_bd {D : Int} {l : List Pas} (h : ∀ p ∈ l, 0 ≤ p.tm ∧ p.tm ≤ 5761439) : ∀ i, i ≤ l.length → ∀ q t, dblM D l i q = some t → 0 ≤ t ∧ t ≤ 5761439 := by
  intro i
  induction i with
  | zero => intro _ q t hq; cases hq
  | succ i ih =>
    intro hi q t hq
    rw [dblM] at hq
    split at hq
    · exact ih (by omega) q t hq
    · dsimp only at hq
      split at hq
      · cases hq; exact h _ (getD_mem (by omega))
      · exact ih (by omega) q t hq
-- toll.doubles
theorem s130 (D C F : Int) (l : List Pas) (hl : l.length ≤ 1000) (hp : ∀ p ∈ l, 0 ≤ p.tm ∧ p.tm ≤ 5761439) :
    FSpec Tryd.prog 130 [.agg [.d (.int .i64 D), .d (.int .i64 C), .d (.int .i64 F)], .d (pass l)] [] (fun x r => x = .d (seqD 1 bF false (fillA false (dblB D l) l.length l.length)) ∧ r = []) := by
  refine spec_of hT (C := []) Tryd.func130 rfl Tryd.call130 rfl rfl rfl ?_
  conv => whnf
  repeat' (first
    | (refine br_intro (fun hb => ?_) (fun hb => ?_) <;> (try simp only [decide_eq_true_eq, decide_eq_false_iff_not, Bool.not_eq_true', Bool.not_eq_false', Bool.and_eq_true, Bool.or_eq_true, beq_iff_eq, not_and, Int.not_le, Int.not_lt, Int.toNat_natCast, beq_eq_false_iff_ne, ne_eq, eq_self, not_true_eq_false, not_false_eq_true] at hb) <;> (conv => whnf))
    | omega
    | (refine And.intro ?_ ?_; ((try dsimp only); first | omega | (refine ⟨by omega, by omega, Int.le_trans (Int.mul_le_mul_of_nonneg_right (Int.ofNat_le.2 (Nat.le_of_ble_eq_true (rfl : Nat.ble _ 1024 = true))) (by omega)) (by omega), by omega⟩) | (refine Nat.le_trans (Nat.mul_le_mul_left _ (Nat.le_of_ble_eq_true (rfl : Nat.ble _ 1024 = true))) ?_; omega) | (unfold inI64; omega) | (constructor <;> omega) | (simp only [inI64, List.length_cons, List.length_append, List.length_nil, List.length_set] at *; omega) | decide | (unfold inI64; decide)); conv => whnf)
    | omega | decide | assumption)
  refine LoopX.rule hT (C := []) (ι := Nat) (fun i => i ≤ l.length) (fun i => mkSt [(2, .ptr 2 0), (5, .mp 5), (6, .buf 6), (16, .d (pass l)), (17, .d (.int .i64 l.length)), (18, .d (.int .i64 i))] [(2, .cells 27 [.d (.int .i64 D), .d (.int .i64 C), .d (.int .i64 F)]), (5, seenR (dblM D l i)), (6, seqB 4 1 bF false (fillA false (dblB D l) l.length i))]) (fun i => l.length - i) 0 (by omega) ?_ ?_
  · refine Entails.mk' [(2, 2), (5, 12), (6, 15)] rfl rfl ⟨SV.le_refl _, SV.le_refl _, SV.le_refl _, SV.le_refl _, SV.le_refl _, SV.le_refl _, trivial⟩ ⟨Res.le_refl _, Res.le_map (fun key hk => ?_), Res.le_buf (by rw [fillA_length]; rfl) (fun j hj => ?_), trivial⟩
    · obtain ⟨a, b, rfl⟩ := wk_ss hk
      exact ⟨rfl, rfl⟩
    · have hj : j < l.length := hj
      rw [rowF_lt (by rw [fillA_length]; exact hj)]
      simp [fillA, bF]
      rfl
  rintro i p1
  have e1 : (i : Int).toNat = i := Int.toNat_natCast i
  have hpi : (i : Int) < l.length → 0 ≤ (l.getD (i : Int).toNat pa0).tm ∧ (l.getD (i : Int).toNat pa0).tm ≤ 5761439 := fun hi => hp _ (getD_mem (by omega))
  have hlen : (fillA false (dblB D l) l.length i).length = l.length := fillA_length
  have hm : ∀ q, 0 ≤ (dblM D l i q).getD 0 ∧ (dblM D l i q).getD 0 ≤ 5761439 := fun q => by
    cases hq : dblM D l i q with
    | none => simp
    | some t => simpa using dblM_bd hp i p1 q t hq
  have hm0 := hm ((l.getD (i : Int).toNat pa0).plate, (l.getD (i : Int).toNat pa0).gate)
  conv => whnf
  repeat' (first
    | (refine And.intro (rfl : zrow _ = some [DV.int .i64 0]) ?_; conv => whnf)
    | (simp only [Nat.beq_refl, cond_true]; conv => whnf)
    | (refine br_intro (fun hb => ?_) (fun hb => ?_) <;> (try simp only [decide_eq_true_eq, decide_eq_false_iff_not, Bool.not_eq_true', Bool.not_eq_false', Bool.and_eq_true, Bool.or_eq_true, beq_iff_eq, not_and, Int.not_le, Int.not_lt, Int.toNat_natCast, beq_eq_false_iff_ne, ne_eq, eq_self, not_true_eq_false, not_false_eq_true] at hb) <;> (conv => whnf))
    | omega
    | (refine And.intro ?_ ?_; ((try dsimp only); first | omega | (refine ⟨by omega, by omega, Int.le_trans (Int.mul_le_mul_of_nonneg_right (Int.ofNat_le.2 (Nat.le_of_ble_eq_true (rfl : Nat.ble _ 1024 = true))) (by omega)) (by omega), by omega⟩) | (refine Nat.le_trans (Nat.mul_le_mul_left _ (Nat.le_of_ble_eq_true (rfl : Nat.ble _ 1024 = true))) ?_; omega) | (unfold inI64; omega) | (constructor <;> omega) | (simp only [inI64, List.length_cons, List.length_append, List.length_nil, List.length_set] at *; omega) | decide | (unfold inI64; decide)); conv => whnf)
    | omega | decide | assumption)
  · rename_i hb1
    have hB : dblB D l i = false := by rw [dblB_eq, decide_eq_false (by omega), Bool.and_false]
    have hM : ∀ a b, dblM D l (i + 1) (a, b) = if a = (l.getD i pa0).plate ∧ b = (l.getD i pa0).gate then some (l.getD i pa0).tm else dblM D l i (a, b) := fun a b => by
      rw [dblM, if_neg (by show ¬ dblB D l i = true; rw [hB]; simp)]
      simp [Prod.ext_iff]
    refine ⟨i + 1, by omega, by omega, Entails.mk' [(2, 2), (5, 5), (6, 6)] rfl rfl ⟨SV.le_refl _, SV.le_refl _, SV.le_refl _, SV.le_refl _, SV.le_refl _, SV.le_refl _, trivial⟩ ⟨Res.le_refl _, Res.le_map (fun key hk => ?_), ?_, trivial⟩⟩
    · obtain ⟨a, b, rfl⟩ := wk_ss hk
      rw [e1]
      simp only [keyEq, keyEq1, Bool.and_true, mHas, mVal, hM]
      by_cases hab : a = (l.getD i pa0).plate ∧ b = (l.getD i pa0).gate
      · rw [if_pos hab, hab.1, hab.2]; simp
      · rw [if_neg hab]
        have : (a == (l.getD i pa0).plate && b == (l.getD i pa0).gate) = false := by
          cases hq : (a == (l.getD i pa0).plate && b == (l.getD i pa0).gate) with
          | false => rfl
          | true => simp at hq; exact absurd hq hab
        rw [this]; simp
    · rw [← fillA_set' (x := false) hB.symm]
      first
        | exact Res.le_putF (fun y _ => rfl)
        | (refine Res.le_putF (x := false) (fun y _ => ?_)
           show [DV.bool _] = [DV.bool _]
           rw [e1]; simpa using hb)
  · rename_i hb1
    have hB : dblB D l i = true := by rw [dblB_eq, decide_eq_true hb, Bool.and_true]; exact hb1
    refine ⟨i + 1, by omega, by omega, Entails.mk' [(2, 2), (5, 5), (6, 6)] rfl rfl ⟨SV.le_refl _, SV.le_refl _, SV.le_refl _, SV.le_refl _, SV.le_refl _, SV.le_refl _, trivial⟩ ⟨Res.le_refl _, ?_, ?_, trivial⟩⟩
    · have : dblM D l (i + 1) = dblM D l i := by rw [dblM]; exact if_pos hB
      rw [this]; exact Res.le_refl _
    · rw [← fillA_set' (x := decide ((l.getD (i : Int).toNat pa0).tm - (dblM D l i ((l.getD (i : Int).toNat pa0).plate, (l.getD (i : Int).toNat pa0).gate)).getD 0 < D)) (by rw [hB, e1]; simpa using hb)]
      exact Res.le_putF (fun y _ => rfl)
  · have hB : dblB D l i = false := by
      rw [dblB_eq, Bool.and_eq_false_iff]; exact .inl hb
    have hM : ∀ a b, dblM D l (i + 1) (a, b) = if a = (l.getD i pa0).plate ∧ b = (l.getD i pa0).gate then some (l.getD i pa0).tm else dblM D l i (a, b) := fun a b => by
      rw [dblM, if_neg (by show ¬ dblB D l i = true; rw [hB]; simp)]
      simp [Prod.ext_iff]
    refine ⟨i + 1, by omega, by omega, Entails.mk' [(2, 2), (5, 5), (6, 6)] rfl rfl ⟨SV.le_refl _, SV.le_refl _, SV.le_refl _, SV.le_refl _, SV.le_refl _, SV.le_refl _, trivial⟩ ⟨Res.le_refl _, Res.le_map (fun key hk => ?_), ?_, trivial⟩⟩
    · obtain ⟨a, b, rfl⟩ := wk_ss hk
      rw [e1]
      simp only [keyEq, keyEq1, Bool.and_true, mHas, mVal, hM]
      by_cases hab : a = (l.getD i pa0).plate ∧ b = (l.getD i pa0).gate
      · rw [if_pos hab, hab.1, hab.2]; simp
      · rw [if_neg hab]
        have : (a == (l.getD i pa0).plate && b == (l.getD i pa0).gate) = false := by
          cases hq : (a == (l.getD i pa0).plate && b == (l.getD i pa0).gate) with
          | false => rfl
          | true => simp at hq; exact absurd hq hab
        rw [this]; simp
    · rw [← fillA_set' (x := false) hB.symm]
      first
        | exact Res.le_putF (fun y _ => rfl)
        | (refine Res.le_putF (x := false) (fun y _ => ?_)
           show [DV.bool _] = [DV.bool _]
           rw [e1]; simpa using hb)
  · refine .freeze _ 6 4 1 _ _ rfl ?_
    have : i = l.length := by omega
    subst this
    refine .ret _ ?_
    conv => whnf
    refine ⟨[], ⟨?_, rfl⟩, trivial⟩
    conv => lhs; whnf
end Go.Proofs.YtellmmmohdjpeaaDoor
set_option maxRecDepth 20000
namespace Go.Proofs.YtellmmmohdjpeaaDoor
open Go Go.Eng
def dblIx (D : Int) (l : List Pas) (n : Nat) : List Int := ((List.range n).filter (dblB D l)).map fun (j : Nat) => (j : Int)
theorem dblIx_succ {D : Int} {l : List Pas} {n : Nat} : dblIx D l (n + 1) = dblIx D l n ++ (if dblB D l n = true then [(n : Int)] else []) := by
  unfold dblIx
  rw [List.range_succ, List.filter_append, List.map_append]
  congr 1
  cases h : dblB D l n <;> simp [h]
theorem dblIx_len {D : Int} {l : List Pas} {n : Nat} : (dblIx D l n).length ≤ n := by
  unfold dblIx; rw [List.length_map]; exact Nat.le_trans (List.length_filter_le _ _) (by simp)
def dblsE (D C F : Int) (g : List Gate) (l : List Pas) : Int := firstE [tollE D C F, chkE g l]
theorem chk_zero {g : List Gate} {l : List Pas} (h : chkE g l = 0) : (g.length ≤ 200 ∧ ∀ x ∈ g, -1440 ≤ x.clock ∧ x.clock ≤ 1440) ∧ l.length ≤ 1000 ∧ ∀ p ∈ l, 0 ≤ p.tm ∧ p.tm ≤ 5761439 := by
  unfold chkE at h
  split at h
  · omega
  · split at h
    · omega
    · exact ⟨gates_zero (by omega), form_zero (by omega)⟩
theorem fillA_get {α : Type} {d : α} {f : Nat → α} {n j : Nat} (h : j < n) : (fillA d f n n).getD j d = f j := by
  rw [List.getD_eq_getElem?_getD]; simp [fillA, h]
-- toll.Doubles
theorem s65 (g : List Gate) (D C F : Int) (l : List Pas) (hg : gOk g) (hl : pOk l) :
    FSpec Tryd.prog 65 [.d (gates g), .agg [.d (.int .i64 D), .d (.int .i64 C), .d (.int .i64 F)], .d (pass l)] [] (fun x r => x = .tup [.d (if dblsE D C F g l = 0 then ints (dblIx D l l.length) else .nilsl), .d (.int .i64 (dblsE D C F g l))] ∧ r = []) := by
  refine spec_of hT (C := []) Tryd.func65 rfl Tryd.call65 rfl rfl rfl ?_
  conv => whnf
  repeat' (first
    | (refine CallX.exact (s66 _ _ _) rfl rfl ?_; rotate_right; conv => whnf)
    | (refine CallX.exact (s90 g l hg hl) rfl rfl ?_; rotate_right; conv => whnf)
    | (refine CallX.pure (s105 [_, _] (by simp)) ⟨SV.le_lit (by rfl) (by rfl), trivial⟩ rfl ?_; conv => whnf)
    | (refine br_intro (fun hb => ?_) (fun hb => ?_) <;> (try simp only [decide_eq_true_eq, decide_eq_false_iff_not, Bool.not_eq_true', Bool.not_eq_false', Bool.and_eq_true, Bool.or_eq_true, beq_iff_eq, not_and, Int.not_le, Int.not_lt, Int.toNat_natCast, beq_eq_false_iff_ne, ne_eq, eq_self, not_true_eq_false, not_false_eq_true] at hb) <;> (conv => whnf))
    | omega
    | (refine And.intro ?_ ?_; ((try dsimp only); first | omega | (refine ⟨by omega, by omega, Int.le_trans (Int.mul_le_mul_of_nonneg_right (Int.ofNat_le.2 (Nat.le_of_ble_eq_true (rfl : Nat.ble _ 1024 = true))) (by omega)) (by omega), by omega⟩) | (refine Nat.le_trans (Nat.mul_le_mul_left _ (Nat.le_of_ble_eq_true (rfl : Nat.ble _ 1024 = true))) ?_; omega) | (unfold inI64; omega) | (constructor <;> omega) | (simp only [inI64, List.length_cons, List.length_append, List.length_nil, List.length_set] at *; omega) | decide | (unfold inI64; decide)); conv => whnf)
    | omega | decide | assumption)
  · have hb : ¬ dblsE D C F g l = 0 := hb
    refine .ret _ ?_
    conv => whnf
    refine ⟨[], ⟨congrArg SV.tup ?_, rfl⟩, trivial⟩
    repeat' (refine cons_eq ?_ ?_)
    all_goals (conv => lhs; whnf)
    all_goals try (with_reducible rfl)
    · rw [if_neg hb]
    · rfl
  have hb : dblsE D C F g l = 0 := hb
  rw [hb]
  have hz : chkE g l = 0 := by simp only [dblsE, firstE] at hb; grind
  obtain ⟨⟨n1, n2⟩, n3, n4⟩ := chk_zero hz
  repeat' (first
    | (refine CallX.exact (s130 _ _ _ l n3 n4) rfl rfl ?_; rotate_right; conv => whnf)
    | (refine br_intro (fun hb => ?_) (fun hb => ?_) <;> (try simp only [decide_eq_true_eq, decide_eq_false_iff_not, Bool.not_eq_true', Bool.not_eq_false', Bool.and_eq_true, Bool.or_eq_true, beq_iff_eq, not_and, Int.not_le, Int.not_lt, Int.toNat_natCast, beq_eq_false_iff_ne, ne_eq, eq_self, not_true_eq_false, not_false_eq_true] at hb) <;> (conv => whnf))
    | omega
    | (refine And.intro ?_ ?_; ((try dsimp only); first | omega | (refine ⟨by omega, by omega, Int.le_trans (Int.mul_le_mul_of_nonneg_right (Int.ofNat_le.2 (Nat.le_of_ble_eq_true (rfl : Nat.ble _ 1024 = true))) (by omega)) (by omega), by omega⟩) | (refine Nat.le_trans (Nat.mul_le_mul_left _ (Nat.le_of_ble_eq_true (rfl : Nat.ble _ 1024 = true))) ?_; omega) | (unfold inI64; omega) | (constructor <;> omega) | (simp only [inI64, List.length_cons, List.length_append, List.length_nil, List.length_set] at *; omega) | decide | (unfold inI64; decide)); conv => whnf)
    | omega | decide | assumption)
  refine LoopX.rule hT (C := []) (ι := Nat) (fun i => i ≤ l.length) (fun i => mkSt [(9, .buf 9), (24, .d (seqD 1 bF false (fillA false (dblB D l) l.length l.length))), (25, .d (.int .i64 l.length)), (26, .d (.int .i64 i))] [(9, seqB 3 1 iF 0 (dblIx D l i))]) (fun i => l.length - i) 0 (by omega) ?_ ?_
  · exact (Entails.nil 9 9 3 1 (rowF iF 0 []) rfl rfl (by decide)).trans (by refine Entails.mk' [(9, 9)] rfl rfl ?_ ?_ <;> repeat' (first | exact True.intro | exact SV.le_refl _ | exact Res.le_refl _ | (refine SV.le_int ?_; rw [fillA_length]) | exact SV.le_int (by omega) | exact SV.le_any _ | refine And.intro ?_ ?_))
  rintro i p1
  have e1 : (i : Int).toNat = i := Int.toNat_natCast i
  have hlen : (fillA false (dblB D l) l.length l.length).length = l.length := fillA_length
  have hdl := dblIx_len (D := D) (l := l) (n := i)
  conv => whnf
  repeat' (first
    | (refine br_intro (fun hb => ?_) (fun hb => ?_) <;> (try simp only [decide_eq_true_eq, decide_eq_false_iff_not, Bool.not_eq_true', Bool.not_eq_false', Bool.and_eq_true, Bool.or_eq_true, beq_iff_eq, not_and, Int.not_le, Int.not_lt, Int.toNat_natCast, beq_eq_false_iff_ne, ne_eq, eq_self, not_true_eq_false, not_false_eq_true] at hb) <;> (conv => whnf))
    | omega
    | (refine And.intro ?_ ?_; ((try dsimp only); first | omega | (refine ⟨by omega, by omega, Int.le_trans (Int.mul_le_mul_of_nonneg_right (Int.ofNat_le.2 (Nat.le_of_ble_eq_true (rfl : Nat.ble _ 1024 = true))) (by omega)) (by omega), by omega⟩) | (refine Nat.le_trans (Nat.mul_le_mul_left _ (Nat.le_of_ble_eq_true (rfl : Nat.ble _ 1024 = true))) ?_; omega) | (unfold inI64; omega) | (constructor <;> omega) | (simp only [inI64, List.length_cons, List.length_append, List.length_nil, List.length_set] at *; omega) | decide | (unfold inI64; decide)); conv => whnf)
    | omega | decide | assumption)
  · rw [fillA_get (by omega)] at hb
    refine ⟨i + 1, by omega, by omega, Entails.mk' [(9, 35)] rfl rfl ⟨SV.le_refl _, SV.le_refl _, SV.le_refl _, SV.le_refl _, trivial⟩ ⟨?_, trivial⟩⟩
    rw [dblIx_succ, if_pos hb]; exact Res.le_snocF (by rfl)
  · rw [fillA_get (by omega)] at hb
    refine ⟨i + 1, by omega, by omega, Entails.mk' [(9, 9)] rfl rfl ⟨SV.le_refl _, SV.le_refl _, SV.le_refl _, SV.le_refl _, trivial⟩ ⟨?_, trivial⟩⟩
    rw [dblIx_succ, if_neg (by rw [hb]; simp), List.append_nil]; exact Res.le_refl _
  · have : i = l.length := by omega
    subst this
    refine .freeze _ 9 3 1 _ _ rfl ?_
    refine .ret _ ?_
    conv => whnf
    refine ⟨[], ⟨congrArg SV.tup ?_, rfl⟩, trivial⟩
    repeat' (refine cons_eq ?_ ?_)
    all_goals (conv => lhs; whnf)
    all_goals try (with_reducible rfl)
    rw [if_pos rfl]
def tolP : List Pas := [⟨1, [103], [65, 65], 0⟩, ⟨2, [103], [65, 65], 0⟩]
def tolG : List Gate := [⟨[103], [97], 0⟩]
theorem tol_zero : dblsE 5 0 0 tolG tolP = 0 := by decide +kernel
theorem tol_ix : dblIx 5 tolP tolP.length = [1] := by decide +kernel
-- tolled
theorem s24 : FSpec Tryd.prog 24 [] [] (fun x r => x = .d (.bool true) ∧ r = []) := by
  have h := s65 tolG 5 0 0 tolP ⟨by decide, by decide⟩ ⟨by decide, by decide⟩
  rw [tol_zero, if_pos rfl, tol_ix] at h
  refine spec_of hT (C := []) Tryd.func24 rfl Tryd.call24 rfl rfl rfl ?_
  conv => whnf
  repeat' (first
    | (refine CallX.pure h ⟨SV.le_lit (l := tolG) rfl rfl, SV.le_refl _, SV.le_lit (l := tolP) rfl rfl, trivial⟩ rfl ?_; conv => whnf)
    | (refine CallX.pure (s37 [1] [1] (by simp) (by simp)) ⟨SV.le_refl _, SV.le_lit rfl rfl, trivial⟩ rfl ?_; conv => whnf)
    | (refine br_intro (fun hb => ?_) (fun hb => ?_) <;> (try simp only [decide_eq_true_eq, decide_eq_false_iff_not, Bool.not_eq_true', Bool.not_eq_false', Bool.and_eq_true, Bool.or_eq_true, beq_iff_eq, not_and, Int.not_le, Int.not_lt, Int.toNat_natCast, beq_eq_false_iff_ne, ne_eq, eq_self, not_true_eq_false, not_false_eq_true] at hb) <;> (conv => whnf))
    | omega
    | (refine And.intro ?_ ?_; ((try dsimp only); first | omega | (refine ⟨by omega, by omega, Int.le_trans (Int.mul_le_mul_of_nonneg_right (Int.ofNat_le.2 (Nat.le_of_ble_eq_true (rfl : Nat.ble _ 1024 = true))) (by omega)) (by omega), by omega⟩) | (refine Nat.le_trans (Nat.mul_le_mul_left _ (Nat.le_of_ble_eq_true (rfl : Nat.ble _ 1024 = true))) ?_; omega) | (unfold inI64; omega) | (constructor <;> omega) | (simp only [inI64, List.length_cons, List.length_append, List.length_nil, List.length_set] at *; omega) | decide | (unfold inI64; decide)); conv => whnf)
    | omega | decide | assumption)
  all_goals
    refine .ret _ ?_
    conv => whnf
    refine ⟨[], ⟨?_, rfl⟩, trivial⟩
    conv => lhs; whnf
    simp
end Go.Proofs.YtellmmmohdjpeaaDoor
set_option maxRecDepth 20000
namespace Go.Proofs.YtellmmmohdjpeaaDoor
open Go Go.Eng
structure Chg where
  hire : List UInt8
  vehicle : List UInt8
  pas : Int
  cents : Int
def chF : Chg → List DV := fun c => [.str c.hire, .str c.vehicle, .int .i64 c.pas, .int .i64 c.cents]
def ch0 : Chg := ⟨[], [], 0, 0⟩
abbrev chgs (l : List Chg) : DV := seqD 4 chF ch0 l
structure Lin where
  kind : Int
  key : List UInt8
  cents : Int
deriving DecidableEq
def liF : Lin → List DV := fun c => [.int .i64 c.kind, .str c.key, .int .i64 c.cents]
def li0 : Lin := ⟨0, [], 0⟩
abbrev lins (l : List Lin) : DV := seqD 3 liF li0 l
def chgE (l : List Chg) (i : Nat) : Int :=
  if ((l.getD i ch0).hire ≠ [] ∧ isKeyB (l.getD i ch0).hire = false) ∨ ((l.getD i ch0).vehicle ≠ [] ∧ isKeyB (l.getD i ch0).vehicle = false) then 5 else if (l.getD i ch0).pas < 0 then 1
  else if 0 < i ∧ (l.getD i ch0).pas ≤ (l.getD (i - 1) ch0).pas then 7 else if ¬ (0 ≤ (l.getD i ch0).cents ∧ (l.getD i ch0).cents ≤ 1000000) then 1 else 0
def chgsE (l : List Chg) : Int := if 1000 < l.length then 2 else firstAt (chgE l) l.length
def cOk (l : List Chg) : Prop := l.length ≤ 2^40 ∧ ∀ c ∈ l, c.hire.length ≤ 2^40 ∧ c.vehicle.length ≤ 2^40
-- toll.checkCharges
theorem s106 (l : List Chg) (hk : cOk l) : FSpec Tryd.prog 106 [.d (chgs l)] [] (fun x r => x = .d (.int .i64 (chgsE l)) ∧ r = []) := by
  refine spec_of hT (C := []) Tryd.func106 rfl Tryd.call106 rfl rfl rfl ?_
  conv => whnf
  refine br_intro (fun h0 => ?_) (fun h0 => ?_)
  · simp at h0
    conv => whnf
    refine .ret _ ?_
    conv => whnf
    refine ⟨[], ⟨?_, rfl⟩, trivial⟩
    conv => lhs; whnf
    unfold chgsE; rw [if_pos (by omega)]
  simp at h0
  conv => whnf
  refine LoopX.rule hT (C := []) (ι := Nat) (fun i => i ≤ l.length ∧ ∀ j, j < i → chgE l j = 0) (fun i => mkSt [(0, .d (chgs l)), (8, .d (chgs l)), (9, .d (.int .i64 l.length)), (10, .d (.int .i64 i))] []) (fun i => l.length - i) 0 ⟨by omega, by omega⟩ (by refine Entails.mk' [] rfl rfl ?_ ?_ <;> repeat' (first | exact True.intro | exact SV.le_refl _ | exact Res.le_refl _ | exact SV.le_int (by omega) | exact SV.le_any _ | refine And.intro ?_ ?_)) ?_
  rintro i ⟨p1, p2⟩
  have hx : (i : Int) < l.length → (l.getD (i : Int).toNat ch0).hire.length ≤ 2^40 ∧ (l.getD (i : Int).toNat ch0).vehicle.length ≤ 2^40 := fun hi => hk.2 _ (getD_mem (by omega))
  have e1 : (i : Int).toNat = i := Int.toNat_natCast i
  have hbad : ∀ e : Int, i < l.length → e ≠ 0 → chgE l i = e → chgsE l = e := fun e h h1 h2 => by
    unfold chgsE; rw [if_neg (by omega)]
    exact firstAt_eq h p2 h1 h2
  conv => whnf
  repeat' (first
    | (refine CallX.exact (s108 _ (hx (by omega)).1) rfl rfl ?_; rotate_right; conv => whnf)
    | (refine CallX.exact (s108 _ (hx (by omega)).2) rfl rfl ?_; rotate_right; conv => whnf)
    | (refine CallX.exact (s119 _ _ _) rfl rfl ?_; rotate_right; conv => whnf)
    | (refine br_intro (fun hb => ?_) (fun hb => ?_) <;> (try simp only [decide_eq_true_eq, decide_eq_false_iff_not, Bool.not_eq_true', Bool.not_eq_false', Bool.and_eq_true, Bool.or_eq_true, beq_iff_eq, not_and, Int.not_le, Int.not_lt, Int.toNat_natCast, beq_eq_false_iff_ne, ne_eq, eq_self, not_true_eq_false, not_false_eq_true] at hb) <;> (conv => whnf))
    | (refine RegX.rule (id := 10) hT rfl [] [(0, []), (1, []), (2, []), (3, []), (4, []), (5, [3, 4]), (6, [3, 4, 5]), (7, [3, 4, 5]), (8, [3, 4]), (9, [3, 4]), (10, [3, 4]), (11, []), (12, []), (13, [])] (by decide +kernel) ?_; conv => whnf)
    | omega
    | (refine And.intro ?_ ?_; ((try dsimp only); first | omega | (refine ⟨by omega, by omega, Int.le_trans (Int.mul_le_mul_of_nonneg_right (Int.ofNat_le.2 (Nat.le_of_ble_eq_true (rfl : Nat.ble _ 1024 = true))) (by omega)) (by omega), by omega⟩) | (refine Nat.le_trans (Nat.mul_le_mul_left _ (Nat.le_of_ble_eq_true (rfl : Nat.ble _ 1024 = true))) ?_; omega) | (unfold inI64; omega) | (constructor <;> omega) | (simp only [inI64, List.length_cons, List.length_append, List.length_nil, List.length_set] at *; omega) | decide | (unfold inI64; decide)); conv => whnf)
    | omega | decide | assumption)
  all_goals first
    | (refine ⟨i + 1, ⟨by omega, first_step p2 (by clear p2 hbad hk hx; simp only [e1, toNat_pred] at *; unfold chgE; grind)⟩, by omega, (by refine Entails.mk' [] rfl rfl ?_ ?_ <;> repeat' (first | exact True.intro | exact SV.le_refl _ | exact Res.le_refl _ | exact SV.le_int (by omega) | exact SV.le_any _ | refine And.intro ?_ ?_))⟩)
    | (refine .ret _ ?_
       conv => whnf
       refine ⟨[], ⟨?_, rfl⟩, trivial⟩
       conv => lhs; whnf
       congr 2
       first
         | exact (hbad _ (by omega) (by decide) (by clear p2 hbad hk hx; simp only [e1, toNat_pred] at *; unfold chgE; grind)).symm
         | (have : i = l.length := by omega
            subst this
            unfold chgsE; rw [if_neg (by omega), firstAt_zero p2]))
-- Q.ChargesFault
theorem s19 (l : List Chg) (hk : cOk l) : FSpec Tryd.prog 19 [.d (chgs l)] [] (fun x r => x = .d (.int .i64 (chgsE l)) ∧ r = []) := by
  refine spec_of hT (C := []) Tryd.func19 rfl Tryd.call19 rfl rfl rfl ?_
  conv => whnf
  refine br_intro (fun h0 => ?_) (fun h0 => ?_)
  · simp at h0
    conv => whnf
    refine .ret _ ?_
    conv => whnf
    refine ⟨[], ⟨?_, rfl⟩, trivial⟩
    conv => lhs; whnf
    unfold chgsE; rw [if_pos (by omega)]
  simp at h0
  conv => whnf
  refine LoopX.rule hT (C := []) (ι := Nat) (fun i => i ≤ l.length ∧ ∀ j, j < i → chgE l j = 0) (fun i => mkSt [(0, .d (chgs l)), (8, .d (chgs l)), (9, .d (.int .i64 l.length)), (10, .d (.int .i64 i))] []) (fun i => l.length - i) 0 ⟨by omega, by omega⟩ (by refine Entails.mk' [] rfl rfl ?_ ?_ <;> repeat' (first | exact True.intro | exact SV.le_refl _ | exact Res.le_refl _ | exact SV.le_int (by omega) | exact SV.le_any _ | refine And.intro ?_ ?_)) ?_
  rintro i ⟨p1, p2⟩
  have hx : (i : Int) < l.length → (l.getD (i : Int).toNat ch0).hire.length ≤ 2^40 ∧ (l.getD (i : Int).toNat ch0).vehicle.length ≤ 2^40 := fun hi => hk.2 _ (getD_mem (by omega))
  have e1 : (i : Int).toNat = i := Int.toNat_natCast i
  have hbad : ∀ e : Int, i < l.length → e ≠ 0 → chgE l i = e → chgsE l = e := fun e h h1 h2 => by
    unfold chgsE; rw [if_neg (by omega)]
    exact firstAt_eq h p2 h1 h2
  conv => whnf
  repeat' (first
    | (refine CallX.exact (s21 _ (hx (by omega)).1) rfl rfl ?_; rotate_right; conv => whnf)
    | (refine CallX.exact (s21 _ (hx (by omega)).2) rfl rfl ?_; rotate_right; conv => whnf)
    | (refine CallX.exact (s109 _ _ _) rfl rfl ?_; rotate_right; conv => whnf)
    | (refine br_intro (fun hb => ?_) (fun hb => ?_) <;> (try simp only [decide_eq_true_eq, decide_eq_false_iff_not, Bool.not_eq_true', Bool.not_eq_false', Bool.and_eq_true, Bool.or_eq_true, beq_iff_eq, not_and, Int.not_le, Int.not_lt, Int.toNat_natCast, beq_eq_false_iff_ne, ne_eq, eq_self, not_true_eq_false, not_false_eq_true] at hb) <;> (conv => whnf))
    | (refine RegX.rule (id := 10) hT rfl [] [(0, []), (1, []), (2, []), (3, []), (4, []), (5, [3, 4]), (6, [3, 4, 5]), (7, [3, 4, 5]), (8, [3, 4]), (9, [3, 4]), (10, [3, 4]), (11, []), (12, []), (13, [])] (by decide +kernel) ?_; conv => whnf)
    | omega
    | (refine And.intro ?_ ?_; ((try dsimp only); first | omega | (refine ⟨by omega, by omega, Int.le_trans (Int.mul_le_mul_of_nonneg_right (Int.ofNat_le.2 (Nat.le_of_ble_eq_true (rfl : Nat.ble _ 1024 = true))) (by omega)) (by omega), by omega⟩) | (refine Nat.le_trans (Nat.mul_le_mul_left _ (Nat.le_of_ble_eq_true (rfl : Nat.ble _ 1024 = true))) ?_; omega) | (unfold inI64; omega) | (constructor <;> omega) | (simp only [inI64, List.length_cons, List.length_append, List.length_nil, List.length_set] at *; omega) | decide | (unfold inI64; decide)); conv => whnf)
    | omega | decide | assumption)
  all_goals first
    | (refine ⟨i + 1, ⟨by omega, first_step p2 (by clear p2 hbad hk hx; simp only [e1, toNat_pred] at *; unfold chgE; grind)⟩, by omega, (by refine Entails.mk' [] rfl rfl ?_ ?_ <;> repeat' (first | exact True.intro | exact SV.le_refl _ | exact Res.le_refl _ | exact SV.le_int (by omega) | exact SV.le_any _ | refine And.intro ?_ ?_))⟩)
    | (refine .ret _ ?_
       conv => whnf
       refine ⟨[], ⟨?_, rfl⟩, trivial⟩
       conv => lhs; whnf
       congr 2
       first
         | exact (hbad _ (by omega) (by decide) (by clear p2 hbad hk hx; simp only [e1, toNat_pred] at *; unfold chgE; grind)).symm
         | (have : i = l.length := by omega
            subst this
            unfold chgsE; rw [if_neg (by omega), firstAt_zero p2]))
theorem chgs_zero {l : List Chg} (h : chgsE l = 0) : l.length ≤ 1000 ∧ ∀ c ∈ l, 0 ≤ c.cents ∧ c.cents ≤ 1000000 := by
  unfold chgsE at h
  split at h
  · omega
  · refine ⟨by omega, fun x hx => ?_⟩
    obtain ⟨j, hj, rfl⟩ := mem_getD (d := ch0) hx
    have := firstAt_all h j hj
    unfold chgE at this
    grind
def chSum (l : List Chg) (hire : List UInt8) : Int := (l.map fun c => if c.hire = hire then c.cents else 0).sum
theorem chSum_snoc {l : List Chg} {hire : List UInt8} {i : Nat} (h : i < l.length) : chSum (l.take (i + 1)) hire = chSum (l.take i) hire + if (l.getD i ch0).hire = hire then (l.getD i ch0).cents else 0 := by
  rw [take_snocD (d := ch0) h]; simp [chSum]
theorem chSum_bd {l : List Chg} {hire : List UInt8} (hl : ∀ c ∈ l, 0 ≤ c.cents ∧ c.cents ≤ 1000000) : 0 ≤ chSum l hire ∧ chSum l hire ≤ 1000000 * l.length := by
  induction l with
  | nil => simp [chSum]
  | cons x l ih =>
    have h1 := hl x List.mem_cons_self
    have h2 := ih (fun y hy => hl y (List.mem_cons_of_mem _ hy))
    simp only [chSum, List.map_cons, List.sum_cons, List.length_cons] at h2 ⊢
    rw [show ((l.length + 1 : Nat) : Int) = (l.length : Int) + 1 by push_cast; rfl, Int.mul_add, Int.mul_one]
    split <;> omega
def linesL (sum fee : Int) : List Lin := if 0 < sum then ⟨6, [116, 111, 108, 108], sum⟩ :: (if 0 < fee then [⟨6, [116, 111, 108, 108, 102, 101, 101], fee⟩] else []) else []
def feeE (D C F : Int) (l : List Chg) (hire : List UInt8) : Int := firstE [tollE D C F, chgsE l, if isKeyB hire = true then 0 else 5]
-- toll.Lines
theorem s16 (D C F : Int) (l : List Chg) (hire : List UInt8) (hk : cOk l) (hh : hire.length ≤ 2^40) :
    FSpec Tryd.prog 16 [.agg [.d (.int .i64 D), .d (.int .i64 C), .d (.int .i64 F)], .d (chgs l), .d (.str hire)] []
      (fun x r => x = .tup [.d (if feeE D C F l hire = 0 then lins (linesL (chSum l hire) F) else .nilsl), .d (.int .i64 (feeE D C F l hire))] ∧ r = []) := by
  have hF : firstE [tollE D C F, chgsE l, if (!isKeyB hire) = true then 5 else 0] = feeE D C F l hire := by
    unfold feeE; cases isKeyB hire <;> rfl
  have hF2 : firstE [tollE D C F, chgsE l, if isKeyB hire = false then 5 else 0] = feeE D C F l hire := by
    unfold feeE; cases isKeyB hire <;> rfl
  refine spec_of hT (C := []) Tryd.func16 rfl Tryd.call16 rfl rfl rfl ?_
  conv => whnf
  repeat' (first
    | (refine CallX.exact (s66 _ _ _) rfl rfl ?_; rotate_right; conv => whnf)
    | (refine CallX.exact (s106 l hk) rfl rfl ?_; rotate_right; conv => whnf)
    | (refine CallX.exact (s108 _ hh) rfl rfl ?_; rotate_right; conv => whnf)
    | (refine CallX.exact (s107 _ _) rfl rfl ?_; rotate_right; conv => whnf)
    | (refine CallX.pure (s105 [_, _, _] (by simp)) ⟨SV.le_lit (by rfl) (by rfl), trivial⟩ rfl ?_; conv => whnf)
    | (refine br_intro (fun hb => ?_) (fun hb => ?_) <;> (try simp only [decide_eq_true_eq, decide_eq_false_iff_not, Bool.not_eq_true', Bool.not_eq_false', Bool.and_eq_true, Bool.or_eq_true, beq_iff_eq, not_and, Int.not_le, Int.not_lt, Int.toNat_natCast, beq_eq_false_iff_ne, ne_eq, eq_self, not_true_eq_false, not_false_eq_true] at hb) <;> (conv => whnf))
    | omega
    | (refine And.intro ?_ ?_; ((try dsimp only); first | omega | (refine ⟨by omega, by omega, Int.le_trans (Int.mul_le_mul_of_nonneg_right (Int.ofNat_le.2 (Nat.le_of_ble_eq_true (rfl : Nat.ble _ 1024 = true))) (by omega)) (by omega), by omega⟩) | (refine Nat.le_trans (Nat.mul_le_mul_left _ (Nat.le_of_ble_eq_true (rfl : Nat.ble _ 1024 = true))) ?_; omega) | (unfold inI64; omega) | (constructor <;> omega) | (simp only [inI64, List.length_cons, List.length_append, List.length_nil, List.length_set] at *; omega) | decide | (unfold inI64; decide)); conv => whnf)
    | omega | decide | assumption)
  · rw [hF2] at hb
    refine .ret _ ?_
    conv => whnf
    refine ⟨[], ⟨congrArg SV.tup ?_, rfl⟩, trivial⟩
    repeat' (refine cons_eq ?_ ?_)
    all_goals (conv => lhs; whnf)
    all_goals try (with_reducible rfl)
    · rw [if_neg hb]
    · rw [hF]
  rw [hF2] at hb
  rw [hb]
  have hz : chgsE l = 0 := by simp only [feeE, firstE] at hb; grind
  obtain ⟨n1, n2⟩ := chgs_zero hz
  have hsm : ∀ i, i ≤ l.length → 0 ≤ chSum (l.take i) hire ∧ chSum (l.take i) hire ≤ 1000000 * i := fun i hi => by
    have := chSum_bd (l := l.take i) (hire := hire) (fun x hx => n2 x (List.mem_of_mem_take hx))
    rwa [List.length_take, Nat.min_eq_left hi] at this
  refine LoopX.rule hT (C := []) (ι := Nat) (fun i => i ≤ l.length) (fun i => mkSt [(2, .d (.str hire)), (3, .ptr 3 0), (9, .d (.int .i64 (chSum (l.take i) hire))), (26, .d (chgs l)), (27, .d (.int .i64 l.length)), (28, .d (.int .i64 i))] [(3, .cells 27 [.d (.int .i64 D), .d (.int .i64 C), .d (.int .i64 F)])]) (fun i => l.length - i) 0 (by omega) (by refine Entails.mk' [(3, 3)] rfl rfl ?_ ?_ <;> repeat' (first | exact True.intro | exact SV.le_refl _ | exact Res.le_refl _ | exact SV.le_int (by omega) | exact SV.le_any _ | refine And.intro ?_ ?_)) ?_
  rintro i p1
  have e1 : (i : Int).toNat = i := Int.toNat_natCast i
  have hs0 := hsm i p1
  have hg : (i : Int) < l.length → 0 ≤ (l.getD (i : Int).toNat ch0).cents ∧ (l.getD (i : Int).toNat ch0).cents ≤ 1000000 := fun h => by rw [e1]; exact n2 _ (getD_mem (by omega))
  conv => whnf
  repeat' (first
    | (refine br_intro (fun hb => ?_) (fun hb => ?_) <;> (try simp only [decide_eq_true_eq, decide_eq_false_iff_not, Bool.not_eq_true', Bool.not_eq_false', Bool.and_eq_true, Bool.or_eq_true, beq_iff_eq, not_and, Int.not_le, Int.not_lt, Int.toNat_natCast, beq_eq_false_iff_ne, ne_eq, eq_self, not_true_eq_false, not_false_eq_true] at hb) <;> (conv => whnf))
    | omega
    | (refine And.intro ?_ ?_; ((try dsimp only); first | omega | (refine ⟨by omega, by omega, Int.le_trans (Int.mul_le_mul_of_nonneg_right (Int.ofNat_le.2 (Nat.le_of_ble_eq_true (rfl : Nat.ble _ 1024 = true))) (by omega)) (by omega), by omega⟩) | (refine Nat.le_trans (Nat.mul_le_mul_left _ (Nat.le_of_ble_eq_true (rfl : Nat.ble _ 1024 = true))) ?_; omega) | (unfold inI64; omega) | (constructor <;> omega) | (simp only [inI64, List.length_cons, List.length_append, List.length_nil, List.length_set] at *; omega) | decide | (unfold inI64; decide)); conv => whnf)
    | omega | decide | assumption)
  all_goals try
    (refine ⟨i + 1, by omega, by omega, Entails.mk' [(3, 3)] rfl rfl ⟨SV.le_refl _, SV.le_refl _, SV.le_int ?_, SV.le_refl _, SV.le_refl _, SV.le_refl _, trivial⟩ ⟨Res.le_refl _, trivial⟩⟩
     rw [chSum_snoc (by omega)]
     first
       | (rw [if_pos hb, e1])
       | rw [if_pos hb]
       | (rw [if_neg hb]; omega))
  all_goals
    have : i = l.length := by omega
    subst this
    rw [List.take_length] at *
    rw [if_pos rfl]
  · have hE : linesL (chSum l hire) F = [⟨6, [116, 111, 108, 108], chSum l hire⟩, ⟨6, [116, 111, 108, 108, 102, 101, 101], F⟩] := by unfold linesL; rw [if_pos (by assumption), if_pos (by assumption)]
    rw [hE]
    refine .freeze _ 62 43 3 _ _ rfl (.weak _ ?_)
    conv => whnf
    refine ⟨_, [], SV.le_tup (m := [.d (lins [⟨6, [116, 111, 108, 108], chSum l hire⟩, ⟨6, [116, 111, 108, 108, 102, 101, 101], F⟩]), .d (.int .i64 0)]) ⟨SV.le_ro rfl (fun i hi => ?_), SV.le_refl _, trivial⟩, ⟨rfl, rfl⟩, trivial⟩
    rcases i with _ | _ | i
    · rfl
    · rfl
    · exact absurd hi (by show ¬ (i + 2 < 2); omega)
  · have hE : linesL (chSum l hire) F = [⟨6, [116, 111, 108, 108], chSum l hire⟩] := by unfold linesL; rw [if_pos (by assumption), if_neg (by omega)]
    rw [hE]
    refine .freeze _ 49 43 3 _ _ rfl (.weak _ ?_)
    conv => whnf
    refine ⟨_, [], SV.le_tup (m := [.d (lins [⟨6, [116, 111, 108, 108], chSum l hire⟩]), .d (.int .i64 0)]) ⟨SV.le_ro rfl (fun i hi => ?_), SV.le_refl _, trivial⟩, ⟨rfl, rfl⟩, trivial⟩
    rcases i with _ | i
    · rfl
    · exact absurd hi (by show ¬ (i + 1 < 1); omega)
  · have hE : linesL (chSum l hire) F = [] := by unfold linesL; rw [if_neg (by omega)]
    rw [hE]
    refine .weak _ ?_
    conv => whnf
    exact ⟨_, [], SV.le_tup (m := [.d (lins []), .d (.int .i64 0)]) ⟨SV.le_nilS, SV.le_refl _, trivial⟩, ⟨rfl, rfl⟩, trivial⟩
-- Q.TollLines
theorem s22 (D C F : Int) (l : List Chg) (hire : List UInt8) (n1 : l.length ≤ 1000) (n2 : ∀ c ∈ l, 0 ≤ c.cents ∧ c.cents ≤ 1000000) :
    FSpec Tryd.prog 22 [.agg [.d (.int .i64 D), .d (.int .i64 C), .d (.int .i64 F)], .d (chgs l), .d (.str hire)] []
      (fun x r => x = .tup [.d (lins (linesL (chSum l hire) F)), .d (.int .i64 0)] ∧ r = []) := by
  refine spec_of hT (C := [37]) Tryd.func22 rfl Tryd.call22 rfl rfl rfl ?_
  conv => whnf
  have hsm : ∀ i, i ≤ l.length → 0 ≤ chSum (l.take i) hire ∧ chSum (l.take i) hire ≤ 1000000 * i := fun i hi => by
    have := chSum_bd (l := l.take i) (hire := hire) (fun x hx => n2 x (List.mem_of_mem_take hx))
    rwa [List.length_take, Nat.min_eq_left hi] at this
  refine LoopX.rule hT (C := [37]) (ι := Nat) (fun i => i ≤ l.length) (fun i => mkSt [(2, .d (.str hire)), (3, .ptr 3 0), (8, .d (.int .i64 (chSum (l.take i) hire))), (12, .d (chgs l)), (13, .d (.int .i64 l.length)), (14, .d (.int .i64 i))] [(3, .cells 27 [.d (.int .i64 D), .d (.int .i64 C), .d (.int .i64 F)])]) (fun i => l.length - i) 0 (by omega) (by refine Entails.mk' [(3, 3)] rfl rfl ?_ ?_ <;> repeat' (first | exact True.intro | exact SV.le_refl _ | exact Res.le_refl _ | exact SV.le_int (by omega) | exact SV.le_any _ | refine And.intro ?_ ?_)) ?_
  rintro i p1
  have e1 : (i : Int).toNat = i := Int.toNat_natCast i
  have hs0 := hsm i p1
  have hg : (i : Int) < l.length → 0 ≤ (l.getD (i : Int).toNat ch0).cents ∧ (l.getD (i : Int).toNat ch0).cents ≤ 1000000 := fun h => by rw [e1]; exact n2 _ (getD_mem (by omega))
  have hfl : (i : Int) < l.length → 0 ≤ (l.getD (i : Int).toNat ch0).cents * (if ((l.getD (i : Int).toNat ch0).hire == hire) = true then 1 else 0) ∧ (l.getD (i : Int).toNat ch0).cents * (if ((l.getD (i : Int).toNat ch0).hire == hire) = true then 1 else 0) ≤ 1000000 := fun h => by
    have := hg h
    split <;> omega
  conv => whnf
  repeat' (first
    | (refine CallX.exact (s112 _) rfl rfl ?_; rotate_right; conv => whnf)
    | (refine br_intro (fun hb => ?_) (fun hb => ?_) <;> (try simp only [decide_eq_true_eq, decide_eq_false_iff_not, Bool.not_eq_true', Bool.not_eq_false', Bool.and_eq_true, Bool.or_eq_true, beq_iff_eq, not_and, Int.not_le, Int.not_lt, Int.toNat_natCast, beq_eq_false_iff_ne, ne_eq, eq_self, not_true_eq_false, not_false_eq_true] at hb) <;> (conv => whnf))
    | (refine RegX.rule (id := 5) hT rfl [] [(0, []), (1, [0]), (2, [0]), (3, [0, 1, 2]), (4, [0, 1, 2]), (5, [0, 1, 2, 3, 4]), (6, [0, 1, 2]), (7, [0, 1, 2]), (8, [0]), (9, []), (10, [])] (by decide +kernel) ?_; conv => whnf)
    | omega
    | (refine And.intro ?_ ?_; ((try dsimp only); first | omega | (refine ⟨by omega, by omega, Int.le_trans (Int.mul_le_mul_of_nonneg_right (Int.ofNat_le.2 (Nat.le_of_ble_eq_true (rfl : Nat.ble _ 1024 = true))) (by omega)) (by omega), by omega⟩) | (refine Nat.le_trans (Nat.mul_le_mul_left _ (Nat.le_of_ble_eq_true (rfl : Nat.ble _ 1024 = true))) ?_; omega) | (unfold inI64; omega) | (constructor <;> omega) | (simp only [inI64, List.length_cons, List.length_append, List.length_nil, List.length_set] at *; omega) | decide | (unfold inI64; decide)); conv => whnf)
    | omega | decide | assumption)
  · refine ⟨i + 1, by omega, by omega, Entails.mk' [(3, 3)] rfl rfl ⟨SV.le_refl _, SV.le_refl _, SV.le_int ?_, SV.le_refl _, SV.le_refl _, SV.le_refl _, trivial⟩ ⟨Res.le_refl _, trivial⟩⟩
    rw [chSum_snoc (by omega), e1]
    by_cases hq : (l.getD i ch0).hire = hire
    · rw [if_pos (by simpa using hq), if_pos hq]; omega
    · rw [if_neg (by simpa using hq), if_neg hq]; omega
  all_goals
    have : i = l.length := by omega
    subst this
    rw [List.take_length] at *
  · have hE : linesL (chSum l hire) F = [] := by unfold linesL; rw [if_neg (by omega)]
    rw [hE]
    refine .weak _ ?_
    conv => whnf
    exact ⟨_, [], SV.le_tup (m := [.d (lins []), .d (.int .i64 0)]) ⟨SV.le_nilS, SV.le_refl _, trivial⟩, ⟨rfl, rfl⟩, trivial⟩
  · have hE : linesL (chSum l hire) F = [⟨6, [116, 111, 108, 108], chSum l hire⟩, ⟨6, [116, 111, 108, 108, 102, 101, 101], F⟩] := by unfold linesL; rw [if_pos (by omega), if_pos (by assumption)]
    rw [hE]
    refine .freeze _ 46 43 3 _ _ rfl (.weak _ ?_)
    conv => whnf
    refine ⟨_, [], SV.le_tup (m := [.d (lins [⟨6, [116, 111, 108, 108], chSum l hire⟩, ⟨6, [116, 111, 108, 108, 102, 101, 101], F⟩]), .d (.int .i64 0)]) ⟨SV.le_ro rfl (fun i hi => ?_), SV.le_refl _, trivial⟩, ⟨rfl, rfl⟩, trivial⟩
    rcases i with _ | _ | i
    · rfl
    · rfl
    · exact absurd hi (by show ¬ (i + 2 < 2); omega)
  · have hE : linesL (chSum l hire) F = [⟨6, [116, 111, 108, 108], chSum l hire⟩] := by unfold linesL; rw [if_pos (by omega), if_neg (by omega)]
    rw [hE]
    refine .freeze _ 37 43 3 _ _ rfl (.weak _ ?_)
    conv => whnf
    refine ⟨_, [], SV.le_tup (m := [.d (lins [⟨6, [116, 111, 108, 108], chSum l hire⟩]), .d (.int .i64 0)]) ⟨SV.le_ro rfl (fun i hi => ?_), SV.le_refl _, trivial⟩, ⟨rfl, rfl⟩, trivial⟩
    rcases i with _ | i
    · rfl
    · exact absurd hi (by show ¬ (i + 1 < 1); omega)
end Go.Proofs.YtellmmmohdjpeaaDoor
set_option maxRecDepth 20000
namespace Go.Proofs.YtellmmmohdjpeaaDoor
open Go Go.Eng
theorem lin_eq {a b : Lin} : a = b ↔ a.kind = b.kind ∧ a.key = b.key ∧ a.cents = b.cents := by cases a; cases b; simp
-- slices.Equal of lines
theorem s23 (l m : List Lin) (hl : l.length ≤ 2^40) : FSpec Tryd.prog 23 [.d (lins l), .d (lins m)] [] (fun x r => x = .d (.bool (decide (l = m))) ∧ r = []) := by
  refine spec_of hT (C := []) Tryd.func23 rfl Tryd.call23 rfl rfl rfl ?_
  conv => whnf
  repeat' (first
    | (refine br_intro (fun hb => ?_) (fun hb => ?_) <;> (try simp only [decide_eq_true_eq, decide_eq_false_iff_not, Bool.not_eq_true', Bool.not_eq_false', Bool.and_eq_true, Bool.or_eq_true, beq_iff_eq, not_and, Int.not_le, Int.not_lt, Int.toNat_natCast, beq_eq_false_iff_ne, ne_eq, eq_self, not_true_eq_false, not_false_eq_true] at hb) <;> (conv => whnf))
    | (refine RegX.rule (id := 6) hT rfl [] [(0, []), (1, [0]), (2, []), (3, []), (4, [0, 1, 2, 3]), (5, [0, 1, 2, 3, 4]), (6, [0, 1, 2, 3]), (7, [0, 1, 2, 3]), (8, [])] (by decide +kernel) ?_; conv => whnf)
    | omega
    | (refine And.intro ?_ ?_; ((try dsimp only); first | omega | (refine ⟨by omega, by omega, Int.le_trans (Int.mul_le_mul_of_nonneg_right (Int.ofNat_le.2 (Nat.le_of_ble_eq_true (rfl : Nat.ble _ 1024 = true))) (by omega)) (by omega), by omega⟩) | (refine Nat.le_trans (Nat.mul_le_mul_left _ (Nat.le_of_ble_eq_true (rfl : Nat.ble _ 1024 = true))) ?_; omega) | (unfold inI64; omega) | (constructor <;> omega) | (simp only [inI64, List.length_cons, List.length_append, List.length_nil, List.length_set] at *; omega) | decide | (unfold inI64; decide)); conv => whnf)
    | omega | decide | assumption)
  · refine .ret _ ?_
    conv => whnf
    refine ⟨[], ⟨?_, rfl⟩, trivial⟩
    conv => lhs; whnf
    have : ¬ l = m := fun q => by subst q; simp at hb
    simp [this]
  have hlen : l.length = m.length := by
    omega
  refine LoopX.rule hT (C := []) (ι := Nat) (fun i => i ≤ l.length ∧ ∀ j, j < i → l.getD j li0 = m.getD j li0) (fun i => mkSt [(0, .d (lins l)), (1, .d (lins m)), (12, .d (.int .i64 l.length)), (13, .d (.int .i64 i))] []) (fun i => l.length - i) 0 ⟨by omega, by omega⟩ (by refine Entails.mk' [] rfl rfl ?_ ?_ <;> repeat' (first | exact True.intro | exact SV.le_refl _ | exact Res.le_refl _ | exact SV.le_int (by omega) | exact SV.le_any _ | refine And.intro ?_ ?_)) ?_
  rintro i ⟨p1, p2⟩
  have e1 : (i : Int).toNat = i := Int.toNat_natCast i
  conv => whnf
  repeat' (first
    | (refine br_intro (fun hb => ?_) (fun hb => ?_) <;> (try simp only [decide_eq_true_eq, decide_eq_false_iff_not, Bool.not_eq_true', Bool.not_eq_false', Bool.and_eq_true, Bool.or_eq_true, beq_iff_eq, not_and, Int.not_le, Int.not_lt, Int.toNat_natCast, beq_eq_false_iff_ne, ne_eq, eq_self, not_true_eq_false, not_false_eq_true] at hb) <;> (conv => whnf))
    | (refine RegX.rule (id := 6) hT rfl [] [(0, []), (1, [0]), (2, []), (3, []), (4, [0, 1, 2, 3]), (5, [0, 1, 2, 3, 4]), (6, [0, 1, 2, 3]), (7, [0, 1, 2, 3]), (8, [])] (by decide +kernel) ?_; conv => whnf)
    | omega
    | (refine And.intro ?_ ?_; ((try dsimp only); first | omega | (refine ⟨by omega, by omega, Int.le_trans (Int.mul_le_mul_of_nonneg_right (Int.ofNat_le.2 (Nat.le_of_ble_eq_true (rfl : Nat.ble _ 1024 = true))) (by omega)) (by omega), by omega⟩) | (refine Nat.le_trans (Nat.mul_le_mul_left _ (Nat.le_of_ble_eq_true (rfl : Nat.ble _ 1024 = true))) ?_; omega) | (unfold inI64; omega) | (constructor <;> omega) | (simp only [inI64, List.length_cons, List.length_append, List.length_nil, List.length_set] at *; omega) | decide | (unfold inI64; decide)); conv => whnf)
    | omega | decide | assumption)
  · refine .ret _ ?_
    conv => whnf
    refine ⟨[], ⟨?_, rfl⟩, trivial⟩
    conv => lhs; whnf
    have : ¬ l = m := fun q => by subst q; simp at hb
    simp [this]
  · exact ⟨i + 1, ⟨by omega, all_step p2 (by rw [lin_eq]; simpa using hb)⟩, by omega, (by refine Entails.mk' [] rfl rfl ?_ ?_ <;> repeat' (first | exact True.intro | exact SV.le_refl _ | exact Res.le_refl _ | exact SV.le_int (by omega) | exact SV.le_any _ | refine And.intro ?_ ?_))⟩
  · refine .ret _ ?_
    conv => whnf
    refine ⟨[], ⟨?_, rfl⟩, trivial⟩
    conv => lhs; whnf
    have : i = l.length := by omega
    subst this
    simp [eq_of_getD li0 hlen p2]
-- when
theorem s20 (b : Bool) (e : Int) : FSpec Tryd.prog 20 [.d (.bool b), .d (.int .i64 e)] [] (fun x r => x = .d (.int .i64 (if b = true then e else 0)) ∧ r = []) := by
  refine spec_of hT (C := []) Tryd.func20 rfl Tryd.call20 rfl rfl rfl ?_
  conv => whnf
  repeat' (first
    | (refine br_intro (fun hb => ?_) (fun hb => ?_) <;> (try simp only [decide_eq_true_eq, decide_eq_false_iff_not, Bool.not_eq_true', Bool.not_eq_false', Bool.and_eq_true, Bool.or_eq_true, beq_iff_eq, not_and, Int.not_le, Int.not_lt, Int.toNat_natCast, beq_eq_false_iff_ne, ne_eq, eq_self, not_true_eq_false, not_false_eq_true] at hb) <;> (conv => whnf))
    | omega
    | (refine And.intro ?_ ?_; ((try dsimp only); first | omega | (refine ⟨by omega, by omega, Int.le_trans (Int.mul_le_mul_of_nonneg_right (Int.ofNat_le.2 (Nat.le_of_ble_eq_true (rfl : Nat.ble _ 1024 = true))) (by omega)) (by omega), by omega⟩) | (refine Nat.le_trans (Nat.mul_le_mul_left _ (Nat.le_of_ble_eq_true (rfl : Nat.ble _ 1024 = true))) ?_; omega) | (unfold inI64; omega) | (constructor <;> omega) | (simp only [inI64, List.length_cons, List.length_append, List.length_nil, List.length_set] at *; omega) | decide | (unfold inI64; decide)); conv => whnf)
    | omega | decide | assumption)
  all_goals
    refine .ret _ ?_
    conv => whnf
    refine ⟨[], ⟨?_, rfl⟩, trivial⟩
    conv => lhs; whnf
    simp [hb]
-- errs
theorem s17 (l : List Int) (hl : l.length ≤ 2^40) : FSpec Tryd.prog 17 [.d (ints l)] [] (fun x r => x = .d (.int .i64 (firstE l)) ∧ r = []) := by
  refine spec_of hT (C := []) Tryd.func17 rfl Tryd.call17 rfl rfl rfl ?_
  conv => whnf
  refine LoopX.rule hT (C := []) (ι := Nat) (fun i => i ≤ l.length ∧ firstE l = firstE (l.drop i)) (fun i => mkSt [(5, .d (ints l)), (6, .d (.int .i64 l.length)), (7, .d (.int .i64 i))] []) (fun i => l.length - i) 0 ⟨by omega, by simp⟩ (by refine Entails.mk' [] rfl rfl ?_ ?_ <;> repeat' (first | exact True.intro | exact SV.le_refl _ | exact Res.le_refl _ | exact SV.le_int (by omega) | exact SV.le_any _ | refine And.intro ?_ ?_)) ?_
  rintro i ⟨p1, p2⟩
  have hd : i < l.length → l.drop i = l.getD i 0 :: l.drop (i + 1) := fun hi => by rw [List.drop_eq_getElem_cons hi, List.getD_eq_getElem?_getD, List.getElem?_eq_getElem hi]; rfl
  conv => whnf
  repeat' (first
    | (refine br_intro (fun hb => ?_) (fun hb => ?_) <;> (try simp only [decide_eq_true_eq, decide_eq_false_iff_not, Bool.not_eq_true', Bool.not_eq_false', Bool.and_eq_true, Bool.or_eq_true, beq_iff_eq, not_and, Int.not_le, Int.not_lt, Int.toNat_natCast, beq_eq_false_iff_ne, ne_eq, eq_self, not_true_eq_false, not_false_eq_true] at hb) <;> (conv => whnf))
    | omega
    | (refine And.intro ?_ ?_; ((try dsimp only); first | omega | (refine ⟨by omega, by omega, Int.le_trans (Int.mul_le_mul_of_nonneg_right (Int.ofNat_le.2 (Nat.le_of_ble_eq_true (rfl : Nat.ble _ 1024 = true))) (by omega)) (by omega), by omega⟩) | (refine Nat.le_trans (Nat.mul_le_mul_left _ (Nat.le_of_ble_eq_true (rfl : Nat.ble _ 1024 = true))) ?_; omega) | (unfold inI64; omega) | (constructor <;> omega) | (simp only [inI64, List.length_cons, List.length_append, List.length_nil, List.length_set] at *; omega) | decide | (unfold inI64; decide)); conv => whnf)
    | omega | decide | assumption)
  · refine .ret _ ?_
    conv => whnf
    refine ⟨[], ⟨?_, rfl⟩, trivial⟩
    conv => lhs; whnf
    congr 2; rw [p2, hd (by omega), firstE, if_neg hb, Int.toNat_natCast]
  · exact ⟨i + 1, ⟨by omega, by rw [p2, hd (by omega), firstE, if_pos hb]⟩, by omega, (by refine Entails.mk' [] rfl rfl ?_ ?_ <;> repeat' (first | exact True.intro | exact SV.le_refl _ | exact Res.le_refl _ | exact SV.le_int (by omega) | exact SV.le_any _ | refine And.intro ?_ ?_))⟩
  · refine .ret _ ?_
    conv => whnf
    refine ⟨[], ⟨?_, rfl⟩, trivial⟩
    conv => lhs; whnf
    congr 2; rw [p2, List.drop_eq_nil_iff.2 (by omega)]; rfl
-- TollRules
theorem s13 (n : Nat) (L : Nat → Int) (hL : Rok n L) (a : Int) (h0 : 0 ≤ a) (ha : a ≤ 2^38) :
    FSpec Tryd.prog 13 [.ptr 1000000 0] [(1000000, strm n L a)] (fun y r => (∃ D C F : Int, y = .agg [.d (.int .i64 D), .d (.int .i64 C), .d (.int .i64 F)]) ∧ Moved n L a 10 r) := by
  refine spec_of hT (C := []) Tryd.func13 rfl Tryd.call13 rfl rfl rfl ?_
  conv => whnf
  repeat' (first
    | (refine CallX.of (s33 n L hL _ ?_ ?_ [0, 1, 6, 10, 60] ?_ ?_) [(1000000, 1000000)] rfl ⟨SV.le_refl _, SV.le_lit rfl rfl, trivial⟩ ⟨Res.le_refl _, trivial⟩ rfl rfl ?_; rotate_right; rintro x rout ⟨⟨j1, hj1, rfl⟩, ⟨c, c1, c2, rfl⟩⟩; refine ⟨rfl, ?_⟩; conv => whnf)
    | (refine CallX.of (s33 n L hL _ ?_ ?_ [-1, 0, 50, 100, 1000] ?_ ?_) [(1000000, 1000000)] rfl ⟨SV.le_refl _, SV.le_lit rfl rfl, trivial⟩ ⟨Res.le_refl _, trivial⟩ rfl rfl ?_; rotate_right; rintro x rout ⟨⟨j2, hj2, rfl⟩, ⟨c, c1, c2, rfl⟩⟩; refine ⟨rfl, ?_⟩; conv => whnf)
    | (refine CallX.of (s33 n L hL _ ?_ ?_ [0, 9] ?_ ?_) [(1000000, 1000000)] rfl ⟨SV.le_refl _, SV.le_lit rfl rfl, trivial⟩ ⟨Res.le_refl _, trivial⟩ rfl rfl ?_; rotate_right; rintro x rout ⟨⟨j3, hj3, rfl⟩, ⟨c, c1, c2, rfl⟩⟩; refine ⟨rfl, ?_⟩; conv => whnf)
    | (refine CallX.of (s84 n L hL _ ?_ ?_ _ ?_) [(1000000, 1000000)] rfl ⟨SV.le_refl _, SV.le_refl _, trivial⟩ ⟨Res.le_refl _, trivial⟩ rfl rfl ?_; rotate_right; rintro x rout ⟨⟨f, rfl⟩, ⟨c, c1, c2, rfl⟩⟩; refine ⟨rfl, ?_⟩; conv => whnf)
    | (refine CallX.of (s104 n L hL _ ?_ ?_ _ _ ?_ ?_ ?_) [(1000000, 1000000)] rfl ⟨SV.le_refl _, SV.le_refl _, SV.le_refl _, trivial⟩ ⟨Res.le_refl _, trivial⟩ rfl rfl ?_; rotate_right; rintro x rout ⟨⟨j, hk1, hk2, rfl⟩, ⟨c, c1, c2, rfl⟩⟩; refine ⟨rfl, ?_⟩; conv => whnf)
    | (refine br_intro (fun hb => ?_) (fun hb => ?_) <;> (try simp only [decide_eq_true_eq, decide_eq_false_iff_not, Bool.not_eq_true', Bool.not_eq_false', Bool.and_eq_true, Bool.or_eq_true, beq_iff_eq, not_and, Int.not_le, Int.not_lt, Int.toNat_natCast, beq_eq_false_iff_ne, ne_eq, eq_self, not_true_eq_false, not_false_eq_true] at hb) <;> (conv => whnf))
    | omega
    | (refine And.intro ?_ ?_; ((try dsimp only); first | omega | (refine ⟨by omega, by omega, Int.le_trans (Int.mul_le_mul_of_nonneg_right (Int.ofNat_le.2 (Nat.le_of_ble_eq_true (rfl : Nat.ble _ 1024 = true))) (by omega)) (by omega), by omega⟩) | (refine Nat.le_trans (Nat.mul_le_mul_left _ (Nat.le_of_ble_eq_true (rfl : Nat.ble _ 1024 = true))) ?_; omega) | (unfold inI64; omega) | (constructor <;> omega) | (simp only [inI64, List.length_cons, List.length_append, List.length_nil, List.length_set] at *; omega) | decide | (unfold inI64; decide)); conv => whnf)
    | omega | decide | assumption)
  all_goals
    refine .ret _ ?_
    conv => whnf
    exact ⟨[(1000000, strm n L _)], ⟨⟨_, _, _, rfl⟩, _, by omega, by omega, rfl⟩, Res.le_refl _, trivial⟩
def chOk (l : List Chg) (k : Nat) : Prop := l.length ≤ k ∧ ∀ c ∈ l, c.hire.length ≤ 8 ∧ c.vehicle.length ≤ 8
theorem chOk_snoc {l : List Chg} {k : Nat} {x : Chg} (h : chOk l k) (hx : x.hire.length ≤ 8 ∧ x.vehicle.length ≤ 8) : chOk (l ++ [x]) (k + 1) := by
  refine ⟨by rw [List.length_append]; simpa using h.1, fun p hp => ?_⟩
  rcases List.mem_append.1 hp with q | q
  · exact h.2 p q
  · simp at q; subst q; exact hx
theorem mem_len {l : List (List UInt8)} {u : List UInt8} (h : u ∈ l) (q : l.all (fun x => decide (x.length ≤ 8)) = true) : u.length ≤ 8 := by
  have := List.all_eq_true.1 q u h
  exact of_decide_eq_true this
theorem chOk_put {l : List Chg} {k m : Nat} {i : Nat} {x : Chg} (h : chOk l k) (hm : k ≤ m) (hx : x.hire.length ≤ 8 ∧ x.vehicle.length ≤ 8) : chOk (l.set i x) m := by
  refine ⟨by have := h.1; rw [List.length_set]; omega, fun p hp => ?_⟩
  rcases List.mem_or_eq_of_mem_set hp with q | q
  · exact h.2 p q
  · subst q; exact hx
-- Charges
theorem s14 (n : Nat) (L : Nat → Int) (hL : Rok n L) (a : Int) (h0 : 0 ≤ a) (ha : a ≤ 2^38) :
    FSpec Tryd.prog 14 [.ptr 1000000 0] [(1000000, strm n L a)] (fun y r => (∃ l : List Chg, chOk l 6 ∧ y = .d (chgs l)) ∧ Moved n L a 40 r) := by
  refine spec_of hT (C := []) Tryd.func14 rfl Tryd.call14 rfl rfl rfl ?_
  conv => whnf
  repeat' (first
    | (refine CallX.of (s64 n L hL _ ?_ ?_ _ _ ?_ ?_ ?_ ?_) [(1000000, 1000000)] rfl ⟨SV.le_refl _, SV.le_refl _, SV.le_refl _, trivial⟩ ⟨Res.le_refl _, trivial⟩ rfl rfl ?_; rotate_right; rintro x rout ⟨⟨m, hm1, hm2, rfl⟩, ⟨c, c1, c2, rfl⟩⟩; refine ⟨rfl, ?_⟩; conv => whnf)
    | (refine br_intro (fun hb => ?_) (fun hb => ?_) <;> (try simp only [decide_eq_true_eq, decide_eq_false_iff_not, Bool.not_eq_true', Bool.not_eq_false', Bool.and_eq_true, Bool.or_eq_true, beq_iff_eq, not_and, Int.not_le, Int.not_lt, Int.toNat_natCast, beq_eq_false_iff_ne, ne_eq, eq_self, not_true_eq_false, not_false_eq_true] at hb) <;> (conv => whnf))
    | omega
    | (refine And.intro ?_ ?_; ((try dsimp only); first | omega | (refine ⟨by omega, by omega, Int.le_trans (Int.mul_le_mul_of_nonneg_right (Int.ofNat_le.2 (Nat.le_of_ble_eq_true (rfl : Nat.ble _ 1024 = true))) (by omega)) (by omega), by omega⟩) | (refine Nat.le_trans (Nat.mul_le_mul_left _ (Nat.le_of_ble_eq_true (rfl : Nat.ble _ 1024 = true))) ?_; omega) | (unfold inI64; omega) | (constructor <;> omega) | (simp only [inI64, List.length_cons, List.length_append, List.length_nil, List.length_set] at *; omega) | decide | (unfold inI64; decide)); conv => whnf)
    | omega | decide | assumption)
  refine LoopX.rule hT (C := []) (ι := Int × List Chg × Nat) (fun (b, l, k) => (a ≤ b ∧ b ≤ a + 1 + 3 * k ∧ (k : Int) ≤ m) ∧ chOk l k)
    (fun (b, l, k) => mkSt [(0, .ptr 1000000 0), (3, .buf 3), (6, .d (.int .i64 m)), (7, .d (.int .i64 k))] [(1000000, strm n L b), (3, seqB 160 4 chF ch0 l)])
    (fun (_, _, k) => 6 - k) (c, [], 0) ⟨⟨by simpa using c1, by simpa using c2, by simpa using hm1⟩, ⟨by simp, by simp⟩⟩ ?_ ?_
  · exact (Entails.nil 3 3 160 4 (rowF chF ch0 []) rfl rfl (by decide)).trans (by refine Entails.mk' [(1000000, 1000000), (3, 3)] rfl rfl ?_ ?_ <;> repeat' (first | exact True.intro | exact SV.le_refl _ | exact Res.le_refl _ | exact SV.le_int (by omega) | exact SV.le_any _ | refine And.intro ?_ ?_))
  rintro ⟨b, l, k⟩ ⟨⟨p1, p2, p3⟩, q1⟩
  have hl1 := q1.1
  conv => whnf
  repeat' (first
    | (refine CallX.of (s84 n L hL _ ?_ ?_ _ ?_) [(1000000, 1000000)] rfl ⟨SV.le_refl _, SV.le_refl _, trivial⟩ ⟨Res.le_refl _, trivial⟩ rfl rfl ?_; rotate_right; rintro x rout ⟨⟨f, rfl⟩, ⟨c, c1, c2, rfl⟩⟩; refine ⟨rfl, ?_⟩; conv => whnf)
    | (refine CallX.of (s15 n L hL _ ?_ ?_ [[], [104, 49], [104, 49], [104, 50]] ?_ ?_) [(1000000, 1000000)] rfl ⟨SV.le_refl _, SV.le_lit rfl rfl, trivial⟩ ⟨Res.le_refl _, trivial⟩ rfl rfl ?_; rotate_right; rintro x rout ⟨⟨u1, hu1, rfl⟩, ⟨c, c1, c2, rfl⟩⟩; refine ⟨rfl, ?_⟩; conv => whnf)
    | (refine CallX.of (s15 n L hL _ ?_ ?_ [[], [118, 49]] ?_ ?_) [(1000000, 1000000)] rfl ⟨SV.le_refl _, SV.le_lit rfl rfl, trivial⟩ ⟨Res.le_refl _, trivial⟩ rfl rfl ?_; rotate_right; rintro x rout ⟨⟨u2, hu2, rfl⟩, ⟨c, c1, c2, rfl⟩⟩; refine ⟨rfl, ?_⟩; conv => whnf)
    | (refine CallX.of (s33 n L hL _ ?_ ?_ [0, 0, 30, 100] ?_ ?_) [(1000000, 1000000)] rfl ⟨SV.le_refl _, SV.le_lit rfl rfl, trivial⟩ ⟨Res.le_refl _, trivial⟩ rfl rfl ?_; rotate_right; rintro x rout ⟨⟨u3, hu3, rfl⟩, ⟨c, c1, c2, rfl⟩⟩; refine ⟨rfl, ?_⟩; conv => whnf)
    | (refine CallX.of (s15 n L hL _ ?_ ?_ [[65], [104, 49]] ?_ ?_) [(1000000, 1000000)] rfl ⟨SV.le_refl _, SV.le_lit rfl rfl, trivial⟩ ⟨Res.le_refl _, trivial⟩ rfl rfl ?_; rotate_right; rintro x rout ⟨⟨u4, hu4, rfl⟩, ⟨c, c1, c2, rfl⟩⟩; refine ⟨rfl, ?_⟩; conv => whnf)
    | (refine CallX.of (s104 n L hL _ ?_ ?_ _ _ ?_ ?_ ?_) [(1000000, 1000000)] rfl ⟨SV.le_refl _, SV.le_refl _, SV.le_refl _, trivial⟩ ⟨Res.le_refl _, trivial⟩ rfl rfl ?_; rotate_right; rintro x rout ⟨⟨u5, hk1, hk2, rfl⟩, ⟨c, c1, c2, rfl⟩⟩; refine ⟨rfl, ?_⟩; conv => whnf)
    | (refine CallX.of (s86 n L hL _ ?_ ?_ _ ?_) [(1000000, 1000000)] rfl ⟨SV.le_refl _, SV.le_refl _, trivial⟩ ⟨Res.le_refl _, trivial⟩ rfl rfl ?_; rotate_right; rintro x rout ⟨⟨j, hj1, hj2, hj3, rfl⟩, ⟨c, c1, c2, rfl⟩⟩; refine ⟨rfl, ?_⟩; conv => whnf)
    | (refine br_intro (fun hb => ?_) (fun hb => ?_) <;> (try simp only [decide_eq_true_eq, decide_eq_false_iff_not, Bool.not_eq_true', Bool.not_eq_false', Bool.and_eq_true, Bool.or_eq_true, beq_iff_eq, not_and, Int.not_le, Int.not_lt, Int.toNat_natCast, beq_eq_false_iff_ne, ne_eq, eq_self, not_true_eq_false, not_false_eq_true] at hb) <;> (conv => whnf))
    | omega
    | (refine And.intro ?_ ?_; ((try dsimp only); first | omega | (refine ⟨by omega, by omega, Int.le_trans (Int.mul_le_mul_of_nonneg_right (Int.ofNat_le.2 (Nat.le_of_ble_eq_true (rfl : Nat.ble _ 1024 = true))) (by omega)) (by omega), by omega⟩) | (refine Nat.le_trans (Nat.mul_le_mul_left _ (Nat.le_of_ble_eq_true (rfl : Nat.ble _ 1024 = true))) ?_; omega) | (unfold inI64; omega) | (constructor <;> omega) | (simp only [inI64, List.length_cons, List.length_append, List.length_nil, List.length_set] at *; omega) | decide | (unfold inI64; decide)); conv => whnf)
    | omega | decide | assumption)
  · refine ⟨(_, _, k + 1), ?_, ?_, Entails.mk' [(1000000, 1000000), (3, 24)] rfl rfl ⟨SV.le_refl _, SV.le_refl _, SV.le_refl _, SV.le_refl _, trivial⟩ ⟨Res.le_refl _, Res.le_snocF (x := ⟨_, _, _, _⟩) rfl, trivial⟩⟩
    · refine ⟨⟨by omega, by omega, by omega⟩, chOk_snoc q1 ⟨?_, ?_⟩⟩
      · exact mem_len hu1 rfl
      · exact mem_len hu2 rfl
    · show 6 - (k + 1) < 6 - k; omega
  · refine .freeze _ 3 160 4 _ _ rfl (.weak _ ?_)
    (conv => whnf)
    refine ⟨_, [(1000000, strm n L _)], SV.le_putF (x := ⟨u4, [], _, _⟩) (fun _ _ => rfl), ⟨⟨_, ?_, rfl⟩, _, by omega, by omega, rfl⟩, Res.le_refl _, trivial⟩
    refine chOk_put q1 (by omega) ⟨?_, by simp⟩
    exact mem_len hu4 rfl
  all_goals
    refine .freeze _ 3 160 4 _ _ rfl (.weak _ ?_)
    (conv => whnf)
    exact ⟨_, [(1000000, strm n L _)], SV.le_refl _, ⟨⟨l, ⟨by omega, q1.2⟩, rfl⟩, _, by omega, by omega, rfl⟩, Res.le_refl _, trivial⟩
end Go.Proofs.YtellmmmohdjpeaaDoor
set_option maxRecDepth 20000
namespace Go.Proofs.YtellmmmohdjpeaaDoor
open Go Go.Eng
theorem linesL_len (a b : Int) : (linesL a b).length ≤ 2^40 := by
  unfold linesL
  split
  · split <;> simp
  · simp
-- ChargesBilled
theorem s3 (n : Nat) (L : Nat → Int) (hn : n ≤ maxLen) (hl : ∀ i, -2^63 ≤ L i ∧ L i < 2^63) : FSpec Tryd.prog 3 [.d (.ro 1 n fun i => [.int .i64 (L i)])] [] (fun x r => x = .d (.bool true) ∧ r = []) := by
  have hL : Rok n L := ⟨hn, hl⟩
  refine spec_of hT (C := []) Tryd.func3 rfl Tryd.call3 rfl rfl rfl ?_
  conv => whnf
  repeat' (first
    | (refine CallX.of (s13 n L hL _ ?_ ?_ ) [(1000000, 13)] rfl ⟨SV.le_refl _, trivial⟩ ⟨Res.le_refl _, trivial⟩ rfl rfl ?_; rotate_right; rintro x rout ⟨⟨D, C, F, rfl⟩, ⟨c, c1, c2, rfl⟩⟩; refine ⟨rfl, ?_⟩; conv => whnf)
    | (refine CallX.of (s14 n L hL _ ?_ ?_ ) [(1000000, 13)] rfl ⟨SV.le_refl _, trivial⟩ ⟨Res.le_refl _, trivial⟩ rfl rfl ?_; rotate_right; rintro x rout ⟨⟨l, q1, rfl⟩, ⟨c, c1, c2, rfl⟩⟩; refine ⟨rfl, ?_⟩; conv => whnf)
    | (refine CallX.of (s15 n L hL _ ?_ ?_ [[104, 49], [104, 49], [104, 50], []] ?_ ?_) [(1000000, 13)] rfl ⟨SV.le_refl _, SV.le_lit rfl rfl, trivial⟩ ⟨Res.le_refl _, trivial⟩ rfl rfl ?_; rotate_right; rintro x rout ⟨⟨h, hh, rfl⟩, ⟨c, c1, c2, rfl⟩⟩; refine ⟨rfl, ?_⟩; conv => whnf)
    | (refine br_intro (fun hb => ?_) (fun hb => ?_) <;> (try simp only [decide_eq_true_eq, decide_eq_false_iff_not, Bool.not_eq_true', Bool.not_eq_false', Bool.and_eq_true, Bool.or_eq_true, beq_iff_eq, not_and, Int.not_le, Int.not_lt, Int.toNat_natCast, beq_eq_false_iff_ne, ne_eq, eq_self, not_true_eq_false, not_false_eq_true] at hb) <;> (conv => whnf))
    | omega
    | (refine And.intro ?_ ?_; ((try dsimp only); first | omega | (refine ⟨by omega, by omega, Int.le_trans (Int.mul_le_mul_of_nonneg_right (Int.ofNat_le.2 (Nat.le_of_ble_eq_true (rfl : Nat.ble _ 1024 = true))) (by omega)) (by omega), by omega⟩) | (refine Nat.le_trans (Nat.mul_le_mul_left _ (Nat.le_of_ble_eq_true (rfl : Nat.ble _ 1024 = true))) ?_; omega) | (unfold inI64; omega) | (constructor <;> omega) | (simp only [inI64, List.length_cons, List.length_append, List.length_nil, List.length_set] at *; omega) | decide | (unfold inI64; decide)); conv => whnf)
    | omega | decide | assumption)
  have hk : cOk l := ⟨by have := q1.1; omega, fun p hp => by have := q1.2 p hp; omega⟩
  have hh8 : h.length ≤ 2^40 := by have := mem_len hh rfl; omega
  have h16 := s16 D C F l h hk hh8
  have h18 := s18 D C F
  have h19 := s19 l hk
  have hE : firstE [tollE D C F, chgsE l, if isKeyB h = false then 5 else 0] = feeE D C F l h := by
    unfold feeE; cases isKeyB h <;> rfl
  by_cases hF : feeE D C F l h = 0
  · rw [if_pos hF, hF] at h16
    rw [hF] at hE
    have hz : chgsE l = 0 := by simp only [feeE, firstE] at hF; grind
    have h22 := s22 D C F l h (chgs_zero hz).1 (chgs_zero hz).2
    have h23 := s23 (linesL (chSum l h) F) (linesL (chSum l h) F) (linesL_len _ _)
    repeat' (first
      | (refine CallX.exact (h16) rfl rfl ?_; rotate_right; conv => whnf)
      | (refine CallX.exact (h18) rfl rfl ?_; rotate_right; conv => whnf)
      | (refine CallX.exact (h19) rfl rfl ?_; rotate_right; conv => whnf)
      | (refine CallX.exact (s21 h hh8) rfl rfl ?_; rotate_right; conv => whnf)
      | (refine CallX.exact (s20 _ _) rfl rfl ?_; rotate_right; conv => whnf)
      | (refine CallX.pure (s17 [_, _, _] (by simp)) ⟨SV.le_lit (by rfl) (by rfl), trivial⟩ rfl ?_; conv => whnf)
      | (refine CallX.exact (h22) rfl rfl ?_; rotate_right; conv => whnf)
      | (refine CallX.exact (h23) rfl rfl ?_; rotate_right; conv => whnf)
      | (refine CallX.exact (s24) rfl rfl ?_; rotate_right; conv => whnf)
      | (refine br_intro (fun hb => ?_) (fun hb => ?_) <;> (try simp only [decide_eq_true_eq, decide_eq_false_iff_not, Bool.not_eq_true', Bool.not_eq_false', Bool.and_eq_true, Bool.or_eq_true, beq_iff_eq, not_and, Int.not_le, Int.not_lt, Int.toNat_natCast, beq_eq_false_iff_ne, ne_eq, eq_self, not_true_eq_false, not_false_eq_true] at hb) <;> (conv => whnf))
      | omega
      | (refine And.intro ?_ ?_; ((try dsimp only); first | omega | (refine ⟨by omega, by omega, Int.le_trans (Int.mul_le_mul_of_nonneg_right (Int.ofNat_le.2 (Nat.le_of_ble_eq_true (rfl : Nat.ble _ 1024 = true))) (by omega)) (by omega), by omega⟩) | (refine Nat.le_trans (Nat.mul_le_mul_left _ (Nat.le_of_ble_eq_true (rfl : Nat.ble _ 1024 = true))) ?_; omega) | (unfold inI64; omega) | (constructor <;> omega) | (simp only [inI64, List.length_cons, List.length_append, List.length_nil, List.length_set] at *; omega) | decide | (unfold inI64; decide)); conv => whnf)
      | omega | decide | assumption)
    all_goals first
      | exact absurd hE (by assumption)
      | (refine .ret _ ?_
         conv => whnf
         refine ⟨[], ⟨?_, rfl⟩, trivial⟩
         conv => lhs; whnf
         all_goals (first | rfl | simp [hE]))
  · rw [if_neg hF] at h16
    generalize feeE D C F l h = e at h16 hE hF
    repeat' (first
      | (refine CallX.exact (h16) rfl rfl ?_; rotate_right; conv => whnf)
      | (refine CallX.exact (h18) rfl rfl ?_; rotate_right; conv => whnf)
      | (refine CallX.exact (h19) rfl rfl ?_; rotate_right; conv => whnf)
      | (refine CallX.exact (s21 h hh8) rfl rfl ?_; rotate_right; conv => whnf)
      | (refine CallX.exact (s20 _ _) rfl rfl ?_; rotate_right; conv => whnf)
      | (refine CallX.pure (s17 [_, _, _] (by simp)) ⟨SV.le_lit (by rfl) (by rfl), trivial⟩ rfl ?_; conv => whnf)
      | (refine CallX.pure (s23 [] [] (by simp)) ⟨SV.le_nilS, SV.le_nilS, trivial⟩ rfl ?_; conv => whnf)
      | (refine CallX.exact (s24) rfl rfl ?_; rotate_right; conv => whnf)
      | (refine br_intro (fun hb => ?_) (fun hb => ?_) <;> (try simp only [decide_eq_true_eq, decide_eq_false_iff_not, Bool.not_eq_true', Bool.not_eq_false', Bool.and_eq_true, Bool.or_eq_true, beq_iff_eq, not_and, Int.not_le, Int.not_lt, Int.toNat_natCast, beq_eq_false_iff_ne, ne_eq, eq_self, not_true_eq_false, not_false_eq_true] at hb) <;> (conv => whnf))
      | omega
      | (refine And.intro ?_ ?_; ((try dsimp only); first | omega | (refine ⟨by omega, by omega, Int.le_trans (Int.mul_le_mul_of_nonneg_right (Int.ofNat_le.2 (Nat.le_of_ble_eq_true (rfl : Nat.ble _ 1024 = true))) (by omega)) (by omega), by omega⟩) | (refine Nat.le_trans (Nat.mul_le_mul_left _ (Nat.le_of_ble_eq_true (rfl : Nat.ble _ 1024 = true))) ?_; omega) | (unfold inI64; omega) | (constructor <;> omega) | (simp only [inI64, List.length_cons, List.length_append, List.length_nil, List.length_set] at *; omega) | decide | (unfold inI64; decide)); conv => whnf)
      | omega | decide | assumption)
    all_goals first
      | exact absurd (hE.symm.trans (by assumption)) hF
      | (refine .ret _ ?_
         conv => whnf
         refine ⟨[], ⟨?_, rfl⟩, trivial⟩
         conv => lhs; whnf
         all_goals (first | rfl | simp [hE]))
end Go.Proofs.YtellmmmohdjpeaaDoor
