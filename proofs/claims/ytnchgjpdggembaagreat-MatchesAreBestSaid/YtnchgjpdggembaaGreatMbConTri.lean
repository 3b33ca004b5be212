/- MatchesAreBest is proved: for every input the law returns true, and its argument reads afterwards as it read before. Conditions: those of the given row alone. -/
import Derived.Test.YtnchgjpdggembaaGreatMbConOne
import Derived.Test.YtnchgjpdggembaaGreatMbEngTwo
import Derived.Shelf.Spec.SlicesGrow
import Derived.Test.YtnchgjpdggembaaGreatMbConTwo
set_option linter.unusedVariables false
set_option linter.unusedSimpArgs false
set_option maxRecDepth 20000
namespace Go.Proofs.YtnchgjpdggembaaGreat
open Go Go.Eng
structure Ntr where
  name : Int
  pay : Int
  step : Int
  late : Int
def ntrF : Ntr → List DV := fun r => [.int .i64 r.name, .int .i64 r.pay, .int .i64 r.step, .int .i64 r.late]
structure Ntc where
  key : List UInt8
  plate : List UInt8
  tm : Int
  came : Int
  cents : Int
def ntcF : Ntc → List DV := fun n => [.str n.key, .str n.plate, .int .i64 n.tm, .int .i64 n.came, .int .i64 n.cents]
def ntc0 : Ntc := ⟨[], [], 0, 0, 0⟩
abbrev ntcs (l : List Ntc) : DV := seqD 5 ntcF ntc0 l
def ntrE (r : Ntr) : Int := if (0 ≤ r.name ∧ r.name ≤ 4000) ∧ (0 ≤ r.pay ∧ r.pay ≤ 4000) ∧ (1 ≤ r.step ∧ r.step ≤ 4000) ∧ (0 ≤ r.late ∧ r.late ≤ 1000000) then 0 else 1
def ntcE (l : List Ntc) (i : Nat) : Int :=
  if isKeyB (l.getD i ntc0).key = false then 5 else if 0 < i ∧ strLe (l.getD i ntc0).key (l.getD (i - 1) ntc0).key = true then 7 else if isPlateB (l.getD i ntc0).plate = false then 3
  else if ¬ ((0 ≤ (l.getD i ntc0).tm ∧ (l.getD i ntc0).tm ≤ (l.getD i ntc0).came) ∧ (0 ≤ (l.getD i ntc0).came ∧ (l.getD i ntc0).came ≤ 5761439) ∧ (0 ≤ (l.getD i ntc0).cents ∧ (l.getD i ntc0).cents ≤ 1000000)) then 1 else 0
def ntcsE (l : List Ntc) : Int := if 200 < l.length then 2 else firstAt (ntcE l) l.length
def ntK (n : Ntc) : Prop := n.key.length ≤ 2^40 ∧ n.plate.length ≤ 2^40
def ntOk (l : List Ntc) : Prop := l.length ≤ 2^40 ∧ ∀ x ∈ l, ntK x
-- toll.CheckNoticeRules
theorem sNtRules (r : Ntr) : FSpec Tryz.prog 62 [.agg ((ntrF r).map .d)] [] (fun x o => x = .d (.int .i64 (ntrE r)) ∧ o = []) := by
  refine spec_of hT (C := []) Tryz.func62 rfl Tryz.call62 rfl rfl rfl ?_
  conv => whnf
  repeat' (first
    | (refine CallX.exact (s119 _ _ _) rfl rfl ?_; rotate_right; conv => whnf)
    | (refine CallX.exact (s107 _ _) rfl rfl ?_; rotate_right; conv => whnf)
    | (refine br_intro (fun hb => ?_) (fun hb => ?_) <;> (try simp only [decide_eq_true_eq, decide_eq_false_iff_not, Bool.not_eq_true', Bool.not_eq_false', Bool.and_eq_true, Bool.or_eq_true, beq_iff_eq, not_and, Int.not_le, Int.not_lt, Int.toNat_natCast, beq_eq_false_iff_ne, ne_eq, eq_self, not_true_eq_false, not_false_eq_true] at hb) <;> (conv => whnf))
    | omega
    | (refine And.intro ?_ ?_; ((try dsimp only); first | omega | (refine ⟨by omega, by omega, Int.le_trans (Int.mul_le_mul_of_nonneg_right (Int.ofNat_le.2 (Nat.le_of_ble_eq_true (rfl : Nat.ble _ 1024 = true))) (by omega)) (by omega), by omega⟩) | (refine Nat.le_trans (Nat.mul_le_mul_left _ (Nat.le_of_ble_eq_true (rfl : Nat.ble _ 1024 = true))) ?_; omega) | (unfold inI64; omega) | (constructor <;> omega) | (simp only [inI64, List.length_cons, List.length_append, List.length_nil, List.length_set] at *; omega) | decide | (unfold inI64; decide)); conv => whnf)
    | omega | decide | assumption)
  all_goals
    refine .ret _ ?_
    conv => whnf
    refine ⟨[], ⟨?_, rfl⟩, trivial⟩
    conv => lhs; whnf
    congr 2
    unfold ntrE; grind
-- word.Moment
theorem sMoment (n : Int) : FSpec Tryz.prog 64 [.d (.int .i64 n)] [] (fun x o => x = .d (.int .i64 (if 0 ≤ n ∧ n ≤ 5761439 then 0 else 1)) ∧ o = []) := by
  refine spec_of hT (C := []) Tryz.func64 rfl Tryz.call64 rfl rfl rfl ?_
  conv => whnf
  repeat' (first
    | (refine CallX.exact (s154 _) rfl rfl ?_; rotate_right; conv => whnf)
    | (refine CallX.exact (s107 _ _) rfl rfl ?_; rotate_right; conv => whnf)
    | (refine br_intro (fun hb => ?_) (fun hb => ?_) <;> (try simp only [decide_eq_true_eq, decide_eq_false_iff_not, Bool.not_eq_true', Bool.not_eq_false', Bool.and_eq_true, Bool.or_eq_true, beq_iff_eq, not_and, Int.not_le, Int.not_lt, Int.toNat_natCast, beq_eq_false_iff_ne, ne_eq, eq_self, not_true_eq_false, not_false_eq_true] at hb) <;> (conv => whnf))
    | omega
    | (refine And.intro ?_ ?_; ((try dsimp only); first | omega | (refine ⟨by omega, by omega, Int.le_trans (Int.mul_le_mul_of_nonneg_right (Int.ofNat_le.2 (Nat.le_of_ble_eq_true (rfl : Nat.ble _ 1024 = true))) (by omega)) (by omega), by omega⟩) | (refine Nat.le_trans (Nat.mul_le_mul_left _ (Nat.le_of_ble_eq_true (rfl : Nat.ble _ 1024 = true))) ?_; omega) | (unfold inI64; omega) | (constructor <;> omega) | (simp only [inI64, List.length_cons, List.length_append, List.length_nil, List.length_set] at *; omega) | decide | (unfold inI64; decide)); conv => whnf)
    | omega | decide | assumption)
  refine .ret _ ?_
  conv => whnf
  refine ⟨[], ⟨?_, rfl⟩, trivial⟩
  conv => lhs; whnf
  congr 2
  grind
-- toll.CheckNotices
theorem sNotices (l : List Ntc) (hk : ntOk l) : FSpec Tryz.prog 63 [.d (ntcs l)] [] (fun x r => x = .d (.int .i64 (ntcsE l)) ∧ r = []) := by
  refine spec_of hT (C := []) Tryz.func63 rfl Tryz.call63 rfl rfl rfl ?_
  conv => whnf
  refine br_intro (fun h0 => ?_) (fun h0 => ?_)
  · simp at h0
    conv => whnf
    refine .ret _ ?_
    conv => whnf
    refine ⟨[], ⟨?_, rfl⟩, trivial⟩
    conv => lhs; whnf
    unfold ntcsE; rw [if_pos (by omega)]
  simp at h0
  conv => whnf
  refine LoopX.rule hT (C := []) (ι := Nat) (fun i => i ≤ l.length ∧ ∀ j, j < i → ntcE l j = 0) (fun i => mkSt [(0, .d (ntcs l)), (8, .d (ntcs l)), (9, .d (.int .i64 l.length)), (10, .d (.int .i64 i))] []) (fun i => l.length - i) 0 ⟨by omega, by omega⟩ (by (refine Entails.mk' [] rfl rfl ?_ ?_ <;> repeat' (first | exact True.intro | exact SV.le_refl _ | exact Res.le_refl _ | exact SV.le_int (by omega) | exact SV.le_any _ | refine And.intro ?_ ?_)); done) ?_
  rintro i ⟨p1, p2⟩
  have hx : (i : Int) < l.length → ntK (l.getD (i : Int).toNat ntc0) := fun hi => hk.2 _ (getD_mem (by omega))
  have e1 : (i : Int).toNat = i := Int.toNat_natCast i
  have hbad : ∀ e : Int, i < l.length → e ≠ 0 → ntcE l i = e → ntcsE l = e := fun e h h1 h2 => by
    unfold ntcsE; rw [if_neg (by omega)]
    exact firstAt_eq h p2 h1 h2
  conv => whnf
  repeat' (first
    | (refine CallX.exact (s108 _ (hx (by omega)).1) rfl rfl ?_; rotate_right; conv => whnf)
    | (refine CallX.exact (s185 _ (hx (by omega)).2) rfl rfl ?_; rotate_right; conv => whnf)
    | (refine CallX.exact (s119 _ _ _) rfl rfl ?_; rotate_right; conv => whnf)
    | (refine CallX.exact (s154 _) rfl rfl ?_; rotate_right; conv => whnf)
    | (refine br_intro (fun hb => ?_) (fun hb => ?_) <;> (try simp only [decide_eq_true_eq, decide_eq_false_iff_not, Bool.not_eq_true', Bool.not_eq_false', Bool.and_eq_true, Bool.or_eq_true, beq_iff_eq, not_and, Int.not_le, Int.not_lt, Int.toNat_natCast, beq_eq_false_iff_ne, ne_eq, eq_self, not_true_eq_false, not_false_eq_true] at hb) <;> (conv => whnf))
    | (refine RegX.rule (id := 8) hT rfl [] [(0, []), (1, []), (2, []), (3, []), (4, []), (5, [3, 4]), (6, [3, 4, 5]), (7, [3, 4, 5]), (8, [3, 4]), (9, [3, 4]), (10, [3, 4]), (11, []), (12, []), (13, [])] (by decide +kernel) ?_; conv => whnf)
    | omega
    | (refine And.intro ?_ ?_; ((try dsimp only); first | omega | (refine ⟨by omega, by omega, Int.le_trans (Int.mul_le_mul_of_nonneg_right (Int.ofNat_le.2 (Nat.le_of_ble_eq_true (rfl : Nat.ble _ 1024 = true))) (by omega)) (by omega), by omega⟩) | (refine Nat.le_trans (Nat.mul_le_mul_left _ (Nat.le_of_ble_eq_true (rfl : Nat.ble _ 1024 = true))) ?_; omega) | (unfold inI64; omega) | (constructor <;> omega) | (simp only [inI64, List.length_cons, List.length_append, List.length_nil, List.length_set] at *; omega) | decide | (unfold inI64; decide)); conv => whnf)
    | omega | decide | assumption)
  all_goals first
    | (refine ⟨i + 1, ⟨by omega, first_step p2 (by clear p2 hbad hk hx; simp only [e1, toNat_pred] at *; unfold ntcE strLe; grind)⟩, by omega, (by (refine Entails.mk' [] rfl rfl ?_ ?_ <;> repeat' (first | exact True.intro | exact SV.le_refl _ | exact Res.le_refl _ | exact SV.le_int (by omega) | exact SV.le_any _ | refine And.intro ?_ ?_)); done)⟩)
    | (refine .ret _ ?_
       conv => whnf
       refine ⟨[], ⟨?_, rfl⟩, trivial⟩
       conv => lhs; whnf
       congr 2
       first
         | exact (hbad _ (by omega) (by decide) (by clear p2 hbad hk hx; simp only [e1, toNat_pred] at *; unfold ntcE strLe; grind)).symm
         | (have : i = l.length := by omega
            subst this
            unfold ntcsE; rw [if_neg (by omega), firstAt_zero p2]))
def dueE (r : Ntr) (n : Ntc) (t : Int) : Int := firstE [ntrE r, ntcsE [n], if 0 ≤ t ∧ t ≤ 5761439 then 0 else 1, if t < n.came then 11 else 0]
def dueO (r : Ntr) (n : Ntc) (t : Int) : Int := (max 0 (t.tdiv 1440 - n.came.tdiv 1440 - r.pay) + r.step - 1).tdiv r.step
def dueV (r : Ntr) (n : Ntc) (t : Int) : Int := n.cents + dueO r n t * r.late
theorem ntc_one {n : Ntc} (h : ntcsE [n] = 0) : isKeyB n.key = true ∧ isPlateB n.plate = true ∧ (0 ≤ n.tm ∧ n.tm ≤ n.came) ∧ (0 ≤ n.came ∧ n.came ≤ 5761439) ∧ (0 ≤ n.cents ∧ n.cents ≤ 1000000) := by
  have h : ntcE [n] 0 = 0 := by simpa [ntcsE, firstAt] using h
  unfold ntcE at h
  simp only [List.getD_cons_zero] at h
  grind
theorem ntr_zero {r : Ntr} (h : ntrE r = 0) : (0 ≤ r.name ∧ r.name ≤ 4000) ∧ (0 ≤ r.pay ∧ r.pay ≤ 4000) ∧ (1 ≤ r.step ∧ r.step ≤ 4000) ∧ (0 ≤ r.late ∧ r.late ≤ 1000000) := by unfold ntrE at h; grind
theorem dueE_zero {r : Ntr} {n : Ntc} {t : Int} (h : dueE r n t = 0) : ntrE r = 0 ∧ ntcsE [n] = 0 ∧ (0 ≤ t ∧ t ≤ 5761439) ∧ n.came ≤ t := by
  unfold dueE at h
  simp only [firstE] at h
  grind
theorem mul_bd {a b A B : Int} (h0 : 0 ≤ a) (h1 : a ≤ A) (h2 : 0 ≤ b) (h3 : b ≤ B) : 0 ≤ a * b ∧ a * b ≤ A * B :=
  ⟨Int.mul_nonneg h0 h2, Int.mul_le_mul h1 h3 h2 (by omega)⟩
theorem tdiv_bd {a b : Int} (h0 : 0 ≤ a) (h1 : 1 ≤ b) : 0 ≤ a.tdiv b ∧ a.tdiv b ≤ a := by
  refine ⟨Int.tdiv_nonneg h0 (by omega), ?_⟩
  have h4 := Int.tmod_add_mul_tdiv a b
  have h2 : 0 ≤ a.tmod b := Int.tmod_nonneg _ h0
  have h5 : a.tdiv b * 1 ≤ a.tdiv b * b := Int.mul_le_mul_of_nonneg_left h1 (Int.tdiv_nonneg h0 (by omega))
  rw [Int.mul_comm] at h4
  omega
theorem dueO_bd {r : Ntr} {n : Ntc} {t : Int} (h1 : ntrE r = 0) (hc : 0 ≤ n.came) (ht : n.came ≤ t) (ht2 : t ≤ 5761439) : 0 ≤ dueO r n t ∧ dueO r n t ≤ 10000 := by
  obtain ⟨_, h2, h3, _⟩ := ntr_zero h1
  unfold dueO
  have a1 := tdiv_bd (a := t) (b := 1440) (by omega) (by omega)
  have a2 := tdiv_bd (a := n.came) (b := 1440) (by omega) (by omega)
  have h4 := Int.tmod_add_mul_tdiv t 1440
  have h5 : 0 ≤ t.tmod 1440 := Int.tmod_nonneg _ (by omega)
  obtain ⟨q, hq⟩ : ∃ q, q = max 0 (t.tdiv 1440 - n.came.tdiv 1440 - r.pay) + r.step - 1 := ⟨_, rfl⟩
  have hq0 : 0 ≤ q ∧ q ≤ 10000 := by omega
  rw [← hq]
  have := tdiv_bd hq0.1 h3.1
  omega
def dueW (r : Ntr) (n : Ntc) (t : Int) : SV := if dueE r n t = 0 then .tup [.d (.int .i64 (dueV r n t)), .d (.int .i64 0)] else .tup [.d (.int .i64 0), .d (.int .i64 (dueE r n t))]
theorem ntOk_one {n : Ntc} (h : ntK n) : ntOk [n] := ⟨by simp, fun x hx => by rw [List.mem_singleton] at hx; rw [hx]; exact h⟩
-- toll.Due
theorem sDue (r : Ntr) (n : Ntc) (t : Int) (hn : ntK n) : FSpec Tryz.prog 33 [.agg ((ntrF r).map .d), .agg ((ntcF n).map .d), .d (.int .i64 t)] [] (fun x o => x = dueW r n t ∧ o = []) := by
  have h105 := s105 [ntrE r, ntcsE [n], if 0 ≤ t ∧ t ≤ 5761439 then 0 else 1, if decide (t < n.came) = true then 11 else 0] (by simp)
  have hE : firstE [ntrE r, ntcsE [n], if 0 ≤ t ∧ t ≤ 5761439 then 0 else 1, if decide (t < n.came) = true then 11 else 0] = dueE r n t := by
    unfold dueE; simp only [decide_eq_true_eq]
  rw [hE] at h105
  unfold dueW
  by_cases hz : dueE r n t = 0
  · rw [if_pos hz]
    rw [hz] at h105
    obtain ⟨h1, h2, h3, h4⟩ := dueE_zero hz
    obtain ⟨_, _, _, h5, h6⟩ := ntc_one h2
    obtain ⟨_, h7, h8, h9⟩ := ntr_zero h1
    have hO := dueO_bd h1 h5.1 h4 h3.2
    have hM := mul_bd hO.1 hO.2 h9.1 h9.2
    have a1 := tdiv_bd (a := t) (b := 1440) (by omega) (by omega)
    have a2 := tdiv_bd (a := n.came) (b := 1440) (by omega) (by omega)
    have hM1 : inI64 (dueO r n t * r.late) := by unfold inI64; omega
    have hM2 : inI64 (dueV r n t) := by unfold dueV inI64; omega
    have hq : inI64 (max 0 (t.tdiv 1440 - n.came.tdiv 1440 - r.pay) + r.step) := by unfold inI64; omega
    have hq2 : inI64 (max 0 (t.tdiv 1440 - n.came.tdiv 1440 - r.pay) + r.step - 1) := by unfold inI64; omega
    have hq3 : inI64 (dueO r n t) := by unfold inI64; omega
    refine spec_of hT (C := []) Tryz.func33 rfl Tryz.call33 rfl rfl rfl ?_
    conv => whnf
    repeat' (first
      | (refine CallX.exact (sNtRules r) rfl rfl ?_; rotate_right; conv => whnf)
      | (refine CallX.pure (sNotices [n] (ntOk_one hn)) ⟨SV.le_lit (by rfl) (by rfl), trivial⟩ rfl ?_; conv => whnf)
      | (refine CallX.exact (sMoment t) rfl rfl ?_; rotate_right; conv => whnf)
      | (refine CallX.exact (s107 _ _) rfl rfl ?_; rotate_right; conv => whnf)
      | (refine CallX.pure h105 ⟨SV.le_lit (by rfl) (by rfl), trivial⟩ rfl ?_; conv => whnf)
      | (refine And.intro hq ?_; conv => whnf)
      | (refine And.intro hq2 ?_; conv => whnf)
      | (refine And.intro hq3 ?_; conv => whnf)
      | (refine And.intro hM1 ?_; conv => whnf)
      | (refine And.intro hM2 ?_; conv => whnf)
      | (refine br_intro (fun hb => ?_) (fun hb => ?_) <;> (try simp only [decide_eq_true_eq, decide_eq_false_iff_not, Bool.not_eq_true', Bool.not_eq_false', Bool.and_eq_true, Bool.or_eq_true, beq_iff_eq, not_and, Int.not_le, Int.not_lt, Int.toNat_natCast, beq_eq_false_iff_ne, ne_eq, eq_self, not_true_eq_false, not_false_eq_true] at hb) <;> (conv => whnf))
      | (refine RegX.rule (id := 1) hT rfl [] [(0, []), (2, [0]), (3, [0]), (5, [0, 2, 3]), (7, [0, 2, 3, 5]), (8, [0, 2, 3, 5, 7]), (9, [0, 2, 3, 5, 7]), (10, [0, 2, 3, 5]), (1, [2, 3, 5, 7, 8, 9, 10]), (4, [5, 7, 8, 9, 10]), (6, [7, 8, 9, 10]), (11, []), (12, []), (13, []), (14, [])] (by decide +kernel) ?_; conv => whnf)
      | (refine RegX.rule (id := 5) hT rfl [] [(0, []), (1, []), (2, [0, 1]), (3, [0, 1, 2]), (4, [0, 1, 2]), (5, [0, 1]), (6, [0, 1]), (7, [0, 1, 2, 3, 4, 5, 6]), (8, [0, 1, 2, 3, 4, 5, 6]), (9, [0, 1]), (10, [0, 1, 2, 3, 4, 5, 6, 7, 8, 9]), (11, [0, 1, 2, 3, 4, 5, 6, 7, 8, 9]), (12, [0, 1]), (13, []), (14, []), (15, [])] (by decide +kernel) ?_; conv => whnf)
      | omega
      | (refine And.intro ?_ ?_; ((try dsimp only); first | omega | (refine ⟨by omega, by omega, Int.le_trans (Int.mul_le_mul_of_nonneg_right (Int.ofNat_le.2 (Nat.le_of_ble_eq_true (rfl : Nat.ble _ 1024 = true))) (by omega)) (by omega), by omega⟩) | (refine Nat.le_trans (Nat.mul_le_mul_left _ (Nat.le_of_ble_eq_true (rfl : Nat.ble _ 1024 = true))) ?_; omega) | (unfold inI64; omega) | (constructor <;> omega) | (simp only [inI64, List.length_cons, List.length_append, List.length_nil, List.length_set] at *; omega) | decide | (unfold inI64; decide)); conv => whnf)
      | omega | decide | assumption)
    refine .ret _ ?_
    conv => whnf
    refine ⟨[], ⟨congrArg SV.tup ?_, rfl⟩, trivial⟩
    repeat' (refine cons_eq ?_ ?_)
    all_goals (conv => lhs; whnf)
    all_goals try (with_reducible rfl)
    all_goals rfl
  · rw [if_neg hz]
    generalize dueE r n t = e at h105 hz
    refine spec_of hT (C := []) Tryz.func33 rfl Tryz.call33 rfl rfl rfl ?_
    conv => whnf
    repeat' (first
      | (refine CallX.exact (sNtRules r) rfl rfl ?_; rotate_right; conv => whnf)
      | (refine CallX.pure (sNotices [n] (ntOk_one hn)) ⟨SV.le_lit (by rfl) (by rfl), trivial⟩ rfl ?_; conv => whnf)
      | (refine CallX.exact (sMoment t) rfl rfl ?_; rotate_right; conv => whnf)
      | (refine CallX.exact (s107 _ _) rfl rfl ?_; rotate_right; conv => whnf)
      | (refine CallX.pure h105 ⟨SV.le_lit (by rfl) (by rfl), trivial⟩ rfl ?_; conv => whnf)
      | (refine br_intro (fun hb => ?_) (fun hb => ?_) <;> (try simp only [decide_eq_true_eq, decide_eq_false_iff_not, Bool.not_eq_true', Bool.not_eq_false', Bool.and_eq_true, Bool.or_eq_true, beq_iff_eq, not_and, Int.not_le, Int.not_lt, Int.toNat_natCast, beq_eq_false_iff_ne, ne_eq, eq_self, not_true_eq_false, not_false_eq_true] at hb) <;> (conv => whnf))
      | (refine RegX.rule (id := 1) hT rfl [] [(0, []), (2, [0]), (3, [0]), (5, [0, 2, 3]), (7, [0, 2, 3, 5]), (8, [0, 2, 3, 5, 7]), (9, [0, 2, 3, 5, 7]), (10, [0, 2, 3, 5]), (1, [2, 3, 5, 7, 8, 9, 10]), (4, [5, 7, 8, 9, 10]), (6, [7, 8, 9, 10]), (11, []), (12, []), (13, []), (14, [])] (by decide +kernel) ?_; conv => whnf)
      | (refine RegX.rule (id := 5) hT rfl [] [(0, []), (1, []), (2, [0, 1]), (3, [0, 1, 2]), (4, [0, 1, 2]), (5, [0, 1]), (6, [0, 1]), (7, [0, 1, 2, 3, 4, 5, 6]), (8, [0, 1, 2, 3, 4, 5, 6]), (9, [0, 1]), (10, [0, 1, 2, 3, 4, 5, 6, 7, 8, 9]), (11, [0, 1, 2, 3, 4, 5, 6, 7, 8, 9]), (12, [0, 1]), (13, []), (14, []), (15, [])] (by decide +kernel) ?_; conv => whnf)
      | omega
      | (refine And.intro ?_ ?_; ((try dsimp only); first | omega | (refine ⟨by omega, by omega, Int.le_trans (Int.mul_le_mul_of_nonneg_right (Int.ofNat_le.2 (Nat.le_of_ble_eq_true (rfl : Nat.ble _ 1024 = true))) (by omega)) (by omega), by omega⟩) | (refine Nat.le_trans (Nat.mul_le_mul_left _ (Nat.le_of_ble_eq_true (rfl : Nat.ble _ 1024 = true))) ?_; omega) | (unfold inI64; omega) | (constructor <;> omega) | (simp only [inI64, List.length_cons, List.length_append, List.length_nil, List.length_set] at *; omega) | decide | (unfold inI64; decide)); conv => whnf)
      | omega | decide | assumption)
    refine .ret _ ?_
    conv => whnf
    refine ⟨[], ⟨congrArg SV.tup ?_, rfl⟩, trivial⟩
    repeat' (refine cons_eq ?_ ?_)
    all_goals (conv => lhs; whnf)
    all_goals try (with_reducible rfl)
    all_goals rfl
-- NoticeRules
end Go.Proofs.YtnchgjpdggembaaGreat
set_option maxRecDepth 20000
namespace Go.Proofs.YtnchgjpdggembaaGreat
open Go Go.Eng
structure Slt where
  day : Int
  many : Int
structure Wnt where
  v : List UInt8
  fr : Int
  to : Int
def wn0 : Wnt := ⟨[], 0, 0⟩
structure Plc where
  v : List UInt8
  day : Int
def pl0 : Plc := ⟨[], 0⟩
structure Bsy where
  v : List UInt8
  fr : Int
  to : Int
  cents : Int
def namesB (w : List Wnt) (l : List Plc) : Prop := w.length = l.length ∧ ∀ i, i < w.length → (w.getD i wn0).v = (l.getD i pl0).v
instance (w : List Wnt) (l : List Plc) : Decidable (namesB w l) := inferInstanceAs (Decidable (_ ∧ _))
end Go.Proofs.YtnchgjpdggembaaGreat
set_option maxRecDepth 20000
namespace Go.Proofs.YtnchgjpdggembaaGreat
open Go Go.Eng
-- shift.span
-- shift.checkSlots
-- SlotsFault
-- shift.checkWanted
-- WantedFault
-- shift.checkPlacedList
-- PlacedForm
-- shift.checkBusy
-- BusyFault
end Go.Proofs.YtnchgjpdggembaaGreat
set_option maxRecDepth 20000
namespace Go.Proofs.YtnchgjpdggembaaGreat
open Go Go.Eng
-- slices.IndexFunc of slots
-- slices.ContainsFunc of slots
-- shift.slotAt
end Go.Proofs.YtnchgjpdggembaaGreat
set_option maxRecDepth 20000
namespace Go.Proofs.YtnchgjpdggembaaGreat
open Go Go.Eng
-- PlacedFault, all else right
-- shift.CheckPlaced
end Go.Proofs.YtnchgjpdggembaaGreat
set_option maxRecDepth 20000
namespace Go.Proofs.YtnchgjpdggembaaGreat
open Go Go.Eng
-- shift.Lost
-- LostOf
end Go.Proofs.YtnchgjpdggembaaGreat
set_option maxRecDepth 20000
namespace Go.Proofs.YtnchgjpdggembaaGreat
open Go Go.Eng
-- placed
end Go.Proofs.YtnchgjpdggembaaGreat
set_option maxRecDepth 20000
namespace Go.Proofs.YtnchgjpdggembaaGreat
open Go Go.Eng
structure Ned where
  st : List UInt8
  many : Int
def ndF : Ned → List DV := fun s => [.str s.st, .int .i64 s.many]
def nd0 : Ned := ⟨[], 0⟩
abbrev neds (l : List Ned) : DV := seqD 2 ndF nd0 l
structure Roa where
  a : List UInt8
  b : List UInt8
  car : Int
  ride : Int
def rdF : Roa → List DV := fun s => [.str s.a, .str s.b, .int .i64 s.car, .int .i64 s.ride]
def rd0 : Roa := ⟨[], [], 0, 0⟩
abbrev roas (l : List Roa) : DV := seqD 4 rdF rd0 l
structure Mov where
  a : List UInt8
  b : List UInt8
  many : Int
def mvF : Mov → List DV := fun s => [.str s.a, .str s.b, .int .i64 s.many]
def mv0 : Mov := ⟨[], [], 0⟩
abbrev movs (l : List Mov) : DV := seqD 3 mvF mv0 l
def ndE (l : List Ned) (i : Nat) : Int :=
  let x := l.getD i nd0
  if isKeyB x.st = false then 5 else if 0 < i ∧ strLe x.st (l.getD (i - 1) nd0).st = true then 7 else if ¬ (-20 ≤ x.many ∧ x.many ≤ 20) then 1 else 0
def ndsE (l : List Ned) : Int := if 10 < l.length then 2 else firstAt (ndE l) l.length
def ndK (x : Ned) : Prop := x.st.length ≤ 2^40
def ndOk (l : List Ned) : Prop := l.length ≤ 2^40 ∧ ∀ x ∈ l, ndK x
def endsC (a b c d : List UInt8) : Int := firstE [cmpS a c, cmpS b d]
def rdE (l : List Roa) (i : Nat) : Int :=
  let x := l.getD i rd0
  if isKeyB x.a = false ∨ isKeyB x.b = false then 5 else if x.a = x.b then 14 else if 0 < i ∧ 0 ≤ endsC (l.getD (i - 1) rd0).a (l.getD (i - 1) rd0).b x.a x.b then 7 else if ¬ ((0 ≤ x.car ∧ x.car ≤ 1000000) ∧ (0 ≤ x.ride ∧ x.ride ≤ 1000000)) then 1 else 0
def rdsE (l : List Roa) : Int := if 2500 < l.length then 2 else firstAt (rdE l) l.length
def rdK (x : Roa) : Prop := x.a.length ≤ 2^40 ∧ x.b.length ≤ 2^40
def rdOk (l : List Roa) : Prop := l.length ≤ 2^40 ∧ ∀ x ∈ l, rdK x
-- shift.byEnds
theorem s204 (a b c d : List UInt8) : FSpec Tryz.prog 132 [.d (.str a), .d (.str b), .d (.str c), .d (.str d)] [] (fun x r => x = .d (.int .i64 (endsC a b c d)) ∧ r = []) := by
  refine spec_of hT (C := []) Tryz.func132 rfl Tryz.call132 rfl rfl rfl ?_
  conv => whnf
  repeat' (first
    | (refine CallX.exact (s184 _ _) rfl rfl ?_; rotate_right; conv => whnf)
    | (refine CallX.pure (s182 [_, _] (by simp)) ⟨SV.le_lit (by rfl) (by rfl), trivial⟩ rfl ?_; conv => whnf)
    | (refine br_intro (fun hb => ?_) (fun hb => ?_) <;> (try simp only [decide_eq_true_eq, decide_eq_false_iff_not, Bool.not_eq_true', Bool.not_eq_false', Bool.and_eq_true, Bool.or_eq_true, beq_iff_eq, not_and, Int.not_le, Int.not_lt, Int.toNat_natCast, beq_eq_false_iff_ne, ne_eq, eq_self, not_true_eq_false, not_false_eq_true] at hb) <;> (conv => whnf))
    | omega
    | (refine And.intro ?_ ?_; ((try dsimp only); first | omega | (refine ⟨by omega, by omega, Int.le_trans (Int.mul_le_mul_of_nonneg_right (Int.ofNat_le.2 (Nat.le_of_ble_eq_true (rfl : Nat.ble _ 1024 = true))) (by omega)) (by omega), by omega⟩) | (refine Nat.le_trans (Nat.mul_le_mul_left _ (Nat.le_of_ble_eq_true (rfl : Nat.ble _ 1024 = true))) ?_; omega) | (unfold inI64; omega) | (constructor <;> omega) | (simp only [inI64, List.length_cons, List.length_append, List.length_nil, List.length_set] at *; omega) | decide | (unfold inI64; decide)); conv => whnf)
    | omega | decide | assumption)
  refine .ret _ ?_
  conv => whnf
  refine ⟨[], ⟨?_, rfl⟩, trivial⟩
  conv => lhs; whnf
  rfl
-- shift.CheckNeeds
theorem s163 (l : List Ned) (hk : ndOk l) : FSpec Tryz.prog 110 [.d (neds l)] [] (fun x r => x = .d (.int .i64 (ndsE l)) ∧ r = []) := by
  refine spec_of hT (C := []) Tryz.func110 rfl Tryz.call110 rfl rfl rfl ?_
  conv => whnf
  refine br_intro (fun h0 => ?_) (fun h0 => ?_)
  · simp at h0
    conv => whnf
    refine .ret _ ?_
    conv => whnf
    refine ⟨[], ⟨?_, rfl⟩, trivial⟩
    conv => lhs; whnf
    unfold ndsE; rw [if_pos (by omega)]
  simp at h0
  conv => whnf
  refine LoopX.rule hT (C := []) (ι := Nat) (fun i => i ≤ l.length ∧ ∀ j, j < i → ndE l j = 0) (fun i => mkSt [(0, .d (neds l)), (8, .d (neds l)), (9, .d (.int .i64 l.length)), (10, .d (.int .i64 i))] []) (fun i => l.length - i) 0 ⟨by omega, by omega⟩ (by (refine Entails.mk' [] rfl rfl ?_ ?_ <;> repeat' (first | exact True.intro | exact SV.le_refl _ | exact Res.le_refl _ | exact SV.le_int (by omega) | exact SV.le_any _ | refine And.intro ?_ ?_)); done) ?_
  rintro i ⟨p1, p2⟩
  have hx : (i : Int) < l.length → ndK (l.getD (i : Int).toNat nd0) := fun hi => hk.2 _ (getD_mem (by omega))
  have e1 : (i : Int).toNat = i := Int.toNat_natCast i
  have hbad : ∀ e : Int, i < l.length → e ≠ 0 → ndE l i = e → ndsE l = e := fun e h h1 h2 => by
    unfold ndsE; rw [if_neg (by omega)]
    exact firstAt_eq h p2 h1 h2
  conv => whnf
  repeat' (first
    | (refine CallX.exact (s108 _ (hx (by omega))) rfl rfl ?_; rotate_right; conv => whnf)
    | (refine CallX.exact (s119 _ _ _) rfl rfl ?_; rotate_right; conv => whnf)
    | (refine br_intro (fun hb => ?_) (fun hb => ?_) <;> (try simp only [decide_eq_true_eq, decide_eq_false_iff_not, Bool.not_eq_true', Bool.not_eq_false', Bool.and_eq_true, Bool.or_eq_true, beq_iff_eq, not_and, Int.not_le, Int.not_lt, Int.toNat_natCast, beq_eq_false_iff_ne, ne_eq, eq_self, not_true_eq_false, not_false_eq_true] at hb) <;> (conv => whnf))
    | (refine RegX.rule (id := 8) hT rfl [] [(0, []), (1, []), (2, []), (3, []), (4, []), (5, [3, 4]), (6, [3, 4, 5]), (7, [3, 4, 5]), (8, [3, 4]), (9, [3, 4]), (10, [3, 4]), (11, []), (12, []), (13, [])] (by decide +kernel) ?_; conv => whnf)
    | omega
    | (refine And.intro ?_ ?_; ((try dsimp only); first | omega | (refine ⟨by omega, by omega, Int.le_trans (Int.mul_le_mul_of_nonneg_right (Int.ofNat_le.2 (Nat.le_of_ble_eq_true (rfl : Nat.ble _ 1024 = true))) (by omega)) (by omega), by omega⟩) | (refine Nat.le_trans (Nat.mul_le_mul_left _ (Nat.le_of_ble_eq_true (rfl : Nat.ble _ 1024 = true))) ?_; omega) | (unfold inI64; omega) | (constructor <;> omega) | (simp only [inI64, List.length_cons, List.length_append, List.length_nil, List.length_set] at *; omega) | decide | (unfold inI64; decide)); conv => whnf)
    | omega | decide | assumption)
  all_goals first
    | (refine ⟨i + 1, ⟨by omega, first_step p2 (by clear p2 hbad hk hx; simp only [e1, toNat_pred] at *; unfold ndE strLe; grind)⟩, by omega, (by (refine Entails.mk' [] rfl rfl ?_ ?_ <;> repeat' (first | exact True.intro | exact SV.le_refl _ | exact Res.le_refl _ | exact SV.le_int (by omega) | exact SV.le_any _ | refine And.intro ?_ ?_)); done)⟩)
    | (refine .ret _ ?_
       conv => whnf
       refine ⟨[], ⟨?_, rfl⟩, trivial⟩
       conv => lhs; whnf
       congr 2
       first
         | exact (hbad _ (by omega) (by decide) (by clear p2 hbad hk hx; simp only [e1, toNat_pred] at *; unfold ndE strLe; grind)).symm
         | (have : i = l.length := by omega
            subst this
            unfold ndsE; rw [if_neg (by omega), firstAt_zero p2]))
-- shift.CheckRoads
theorem s164 (l : List Roa) (hk : rdOk l) : FSpec Tryz.prog 111 [.d (roas l)] [] (fun x r => x = .d (.int .i64 (rdsE l)) ∧ r = []) := by
  refine spec_of hT (C := []) Tryz.func111 rfl Tryz.call111 rfl rfl rfl ?_
  conv => whnf
  refine br_intro (fun h0 => ?_) (fun h0 => ?_)
  · simp at h0
    conv => whnf
    refine .ret _ ?_
    conv => whnf
    refine ⟨[], ⟨?_, rfl⟩, trivial⟩
    conv => lhs; whnf
    unfold rdsE; rw [if_pos (by omega)]
  simp at h0
  conv => whnf
  refine LoopX.rule hT (C := []) (ι := Nat) (fun i => i ≤ l.length ∧ ∀ j, j < i → rdE l j = 0) (fun i => mkSt [(0, .d (roas l)), (8, .d (roas l)), (9, .d (.int .i64 l.length)), (10, .d (.int .i64 i))] []) (fun i => l.length - i) 0 ⟨by omega, by omega⟩ (by (refine Entails.mk' [] rfl rfl ?_ ?_ <;> repeat' (first | exact True.intro | exact SV.le_refl _ | exact Res.le_refl _ | exact SV.le_int (by omega) | exact SV.le_any _ | refine And.intro ?_ ?_)); done) ?_
  rintro i ⟨p1, p2⟩
  have hx : (i : Int) < l.length → rdK (l.getD (i : Int).toNat rd0) := fun hi => hk.2 _ (getD_mem (by omega))
  have e1 : (i : Int).toNat = i := Int.toNat_natCast i
  have hbad : ∀ e : Int, i < l.length → e ≠ 0 → rdE l i = e → rdsE l = e := fun e h h1 h2 => by
    unfold rdsE; rw [if_neg (by omega)]
    exact firstAt_eq h p2 h1 h2
  conv => whnf
  repeat' (first
    | (refine CallX.exact (s108 _ (hx (by omega)).1) rfl rfl ?_; rotate_right; conv => whnf)
    | (refine CallX.exact (s108 _ (hx (by omega)).2) rfl rfl ?_; rotate_right; conv => whnf)
    | (refine CallX.exact (s204 _ _ _ _) rfl rfl ?_; rotate_right; conv => whnf)
    | (refine CallX.exact (s119 _ _ _) rfl rfl ?_; rotate_right; conv => whnf)
    | (refine br_intro (fun hb => ?_) (fun hb => ?_) <;> (try simp only [decide_eq_true_eq, decide_eq_false_iff_not, Bool.not_eq_true', Bool.not_eq_false', Bool.and_eq_true, Bool.or_eq_true, beq_iff_eq, not_and, Int.not_le, Int.not_lt, Int.toNat_natCast, beq_eq_false_iff_ne, ne_eq, eq_self, not_true_eq_false, not_false_eq_true] at hb) <;> (conv => whnf))
    | (refine RegX.rule (id := 10) hT rfl [] [(0, []), (1, []), (2, []), (3, []), (4, [3]), (5, [3]), (6, []), (7, []), (8, []), (9, [3, 4, 5, 6, 7, 8]), (10, [3, 4, 5, 6, 7, 8, 9]), (11, [3, 4, 5, 6, 7, 8, 9]), (12, [3, 4, 5, 6, 7, 8]), (13, [3, 4, 5, 6, 7, 8]), (14, [3, 4, 5, 6, 7, 8]), (15, [3, 4, 5, 6, 7, 8, 9, 10, 11, 12, 13, 14]), (16, [3, 4, 5, 6, 7, 8, 9, 10, 11, 12, 13, 14]), (17, [3, 4, 5, 6, 7, 8, 9, 10, 11, 12, 13, 14, 15, 16]), (18, [3, 4, 5, 6, 7, 8, 9, 10, 11, 12, 13, 14, 15, 16]), (19, []), (20, []), (21, []), (22, [])] (by decide +kernel) ?_; conv => whnf)
    | omega
    | (refine And.intro ?_ ?_; ((try dsimp only); first | omega | (refine ⟨by omega, by omega, Int.le_trans (Int.mul_le_mul_of_nonneg_right (Int.ofNat_le.2 (Nat.le_of_ble_eq_true (rfl : Nat.ble _ 1024 = true))) (by omega)) (by omega), by omega⟩) | (refine Nat.le_trans (Nat.mul_le_mul_left _ (Nat.le_of_ble_eq_true (rfl : Nat.ble _ 1024 = true))) ?_; omega) | (unfold inI64; omega) | (constructor <;> omega) | (simp only [inI64, List.length_cons, List.length_append, List.length_nil, List.length_set] at *; omega) | decide | (unfold inI64; decide)); conv => whnf)
    | omega | decide | assumption)
  all_goals first
    | (refine ⟨i + 1, ⟨by omega, first_step p2 (by clear p2 hbad hk hx; simp only [e1, toNat_pred] at *; unfold rdE ; grind)⟩, by omega, (by (refine Entails.mk' [] rfl rfl ?_ ?_ <;> repeat' (first | exact True.intro | exact SV.le_refl _ | exact Res.le_refl _ | exact SV.le_int (by omega) | exact SV.le_any _ | refine And.intro ?_ ?_)); done)⟩)
    | (refine .ret _ ?_
       conv => whnf
       refine ⟨[], ⟨?_, rfl⟩, trivial⟩
       conv => lhs; whnf
       congr 2
       first
         | exact (hbad _ (by omega) (by decide) (by clear p2 hbad hk hx; simp only [e1, toNat_pred] at *; unfold rdE ; grind)).symm
         | (have : i = l.length := by omega
            subst this
            unfold rdsE; rw [if_neg (by omega), firstAt_zero p2]))
-- shift.checkTask
theorem s113 (l : List Ned) (m : List Roa) (hl : ndOk l) (hm : rdOk m) : FSpec Tryz.prog 65 [.d (neds l), .d (roas m)] [] (fun x r => x = .d (.int .i64 (firstE [ndsE l, rdsE m])) ∧ r = []) := by
  refine spec_of hT (C := []) Tryz.func65 rfl Tryz.call65 rfl rfl rfl ?_
  conv => whnf
  repeat' (first
    | (refine CallX.exact (s163 l hl) rfl rfl ?_; rotate_right; conv => whnf)
    | (refine CallX.exact (s164 m hm) rfl rfl ?_; rotate_right; conv => whnf)
    | (refine CallX.pure (s105 [_, _] (by simp)) ⟨SV.le_lit (by rfl) (by rfl), trivial⟩ rfl ?_; conv => whnf)
    | (refine br_intro (fun hb => ?_) (fun hb => ?_) <;> (try simp only [decide_eq_true_eq, decide_eq_false_iff_not, Bool.not_eq_true', Bool.not_eq_false', Bool.and_eq_true, Bool.or_eq_true, beq_iff_eq, not_and, Int.not_le, Int.not_lt, Int.toNat_natCast, beq_eq_false_iff_ne, ne_eq, eq_self, not_true_eq_false, not_false_eq_true] at hb) <;> (conv => whnf))
    | omega
    | (refine And.intro ?_ ?_; ((try dsimp only); first | omega | (refine ⟨by omega, by omega, Int.le_trans (Int.mul_le_mul_of_nonneg_right (Int.ofNat_le.2 (Nat.le_of_ble_eq_true (rfl : Nat.ble _ 1024 = true))) (by omega)) (by omega), by omega⟩) | (refine Nat.le_trans (Nat.mul_le_mul_left _ (Nat.le_of_ble_eq_true (rfl : Nat.ble _ 1024 = true))) ?_; omega) | (unfold inI64; omega) | (constructor <;> omega) | (simp only [inI64, List.length_cons, List.length_append, List.length_nil, List.length_set] at *; omega) | decide | (unfold inI64; decide)); conv => whnf)
    | omega | decide | assumption)
  refine .ret _ ?_
  conv => whnf
  refine ⟨[], ⟨?_, rfl⟩, trivial⟩
  conv => lhs; whnf
-- the program's own try
def tN : List Ned := [⟨[97], 1⟩, ⟨[98], -1⟩]
def tR : List Roa := [⟨[97], [98], 4, 0⟩]
theorem s113t : FSpec Tryz.prog 65 [.d (neds tN), .d (roas tR)] [] (fun x r => x = .d (.int .i64 0) ∧ r = []) := by
  have h := s113 tN tR ⟨by simp [tN], by intro x hx; simp [tN] at hx; rcases hx with rfl | rfl <;> simp [ndK]⟩ ⟨by simp [tR], by intro x hx; simp [tR] at hx; subst hx; simp [rdK]⟩
  rwa [show firstE [ndsE tN, rdsE tR] = 0 by decide] at h
end Go.Proofs.YtnchgjpdggembaaGreat
set_option maxRecDepth 20000
namespace Go.Proofs.YtnchgjpdggembaaGreat
open Go Go.Eng
def nHas (l : List Roa) : Nat → List DV → Bool
  | 0 => fun _ => false
  | n + 1 => fun q => keyEq q [.str (l.getD n rd0).a, .str (l.getD n rd0).b] || nHas l n q
def nVal (l : List Roa) : Nat → List DV → List DV
  | 0 => fun _ => [.str [], .str [], .int .i64 0, .int .i64 0]
  | n + 1 => fun q => bif keyEq q [.str (l.getD n rd0).a, .str (l.getD n rd0).b] then rdF (l.getD n rd0) else nVal l n q
abbrev netR (l : List Roa) (n : Nat) : Res := .map true true [.str, .str] [.str [], .str [], .int .i64 0, .int .i64 0] (nHas l n) (nVal l n)
-- shift.netOf
theorem s165 (l : List Roa) (hl : l.length ≤ 2^40) : FSpec Tryz.prog 112 [.d (roas l)] [] (fun y r => y = .mp 3 ∧ r = [(3, netR l l.length)]) := by
  refine spec_of hT (C := []) Tryz.func112 rfl Tryz.call112 rfl rfl rfl ?_
  conv => whnf
  refine LoopX.rule hT (C := []) (ι := Nat) (fun i => i ≤ l.length) (fun i => mkSt [(3, .mp 3), (7, .d (roas l)), (8, .d (.int .i64 l.length)), (9, .d (.int .i64 i))] [(3, netR l i)]) (fun i => l.length - i) 0 (by omega) ?_ ?_
  · exact Entails.mk' [(3, 6)] rfl rfl ⟨SV.le_refl _, SV.le_refl _, SV.le_refl _, SV.le_refl _, trivial⟩ ⟨Res.le_refl _, trivial⟩
  rintro i p1
  conv => whnf
  repeat' (first
    | (refine br_intro (fun hb => ?_) (fun hb => ?_) <;> (try simp only [decide_eq_true_eq, decide_eq_false_iff_not, Bool.not_eq_true', Bool.not_eq_false', Bool.and_eq_true, Bool.or_eq_true, beq_iff_eq, not_and, Int.not_le, Int.not_lt, Int.toNat_natCast, beq_eq_false_iff_ne, ne_eq, eq_self, not_true_eq_false, not_false_eq_true] at hb) <;> (conv => whnf))
    | omega
    | (refine And.intro ?_ ?_; ((try dsimp only); first | omega | (refine ⟨by omega, by omega, Int.le_trans (Int.mul_le_mul_of_nonneg_right (Int.ofNat_le.2 (Nat.le_of_ble_eq_true (rfl : Nat.ble _ 1024 = true))) (by omega)) (by omega), by omega⟩) | (refine Nat.le_trans (Nat.mul_le_mul_left _ (Nat.le_of_ble_eq_true (rfl : Nat.ble _ 1024 = true))) ?_; omega) | (unfold inI64; omega) | (constructor <;> omega) | (simp only [inI64, List.length_cons, List.length_append, List.length_nil, List.length_set] at *; omega) | decide | (unfold inI64; decide)); conv => whnf)
    | omega | decide | assumption)
  · exact ⟨i + 1, by omega, by omega, Entails.mk' [(3, 3)] rfl rfl ⟨SV.le_refl _, SV.le_refl _, SV.le_refl _, SV.le_refl _, trivial⟩ ⟨Res.le_refl _, trivial⟩⟩
  · have : i = l.length := by omega
    subst this
    refine .ret _ ?_
    conv => whnf
    exact ⟨_, ⟨rfl, rfl⟩, Res.le_refl _, trivial⟩
structure Arc where
  fr : Int
  to : Int
  car : Int
  flow : Int
def arF : Arc → List DV := fun s => [.int .i64 s.fr, .int .i64 s.to, .int .i64 s.car, .int .i64 s.flow]
def ar0 : Arc := ⟨0, 0, 0, 0⟩
abbrev froI (l : List Int) : Res := .fro 1 l.length (rowF iF 0 l)
abbrev arcB (l : List Arc) : Res := seqB 120 4 arF ar0 l
set_option maxHeartbeats 4000000 in
-- shift.transportOf, of the try
theorem s114t : FSpec Tryz.prog 66 [.d (neds tN), .d (roas tR)] [] (fun y r => y = .ptr 20 0 ∧ r = [(20, .cells 118 [.buf 15, .buf 18, .buf 88]), (15, froI [1, 0]), (18, froI [0, 1]), (88, arcB [⟨0, 1, 4, 0⟩])]) := by
  refine spec_of hT (C := []) Tryz.func66 rfl Tryz.call66 rfl rfl rfl ?_
  conv => whnf
  repeat' (first
    | (refine CallX.of (s165 tR (by simp [tR])) [(3, 22)] rfl ⟨SV.le_refl _, trivial⟩ trivial rfl rfl ?_; rintro x rout ⟨rfl, rfl⟩; refine ⟨rfl, ?_⟩; conv => whnf)
    | (refine LoopX.run hT (C := []) 8 rfl [0, 5, 6, 23, 24, 25] [] (fun _ _ h => h) (fun _ h => h) ?_; conv => whnf)
    | (refine LoopX.run hT (C := []) 16 rfl [0, 5, 6, 7, 8, 23, 24, 25, 49, 50, 51] [] (fun _ _ h => h) (fun _ h => h) ?_; conv => whnf)
    | (refine And.intro (rfl : zrow _ = some [.str [], .str [], .int .i64 0, .int .i64 0]) ?_; conv => whnf)
    | (refine br_intro (fun hb => ?_) (fun hb => ?_) <;> (try simp only [decide_eq_true_eq, decide_eq_false_iff_not, Bool.not_eq_true', Bool.not_eq_false', Bool.and_eq_true, Bool.or_eq_true, beq_iff_eq, not_and, Int.not_le, Int.not_lt, Int.toNat_natCast, beq_eq_false_iff_ne, ne_eq, eq_self, not_true_eq_false, not_false_eq_true] at hb) <;> (conv => whnf))
    | (refine RegX.rule (id := 1) hT rfl [] [(0, []), (1, []), (2, []), (3, [0, 1, 2]), (4, [0, 1, 2]), (5, [0, 1, 2]), (6, []), (7, []), (8, [])] (by decide +kernel) ?_; conv => whnf)
    | (refine RegX.rule (id := 6) hT rfl [] [(0, []), (1, []), (2, []), (3, []), (4, [0, 1, 2, 3]), (5, [0, 1, 2, 3, 4]), (6, [0, 1, 2, 3, 4]), (7, [0, 1, 2, 3, 4]), (8, [0, 1, 2, 3, 4]), (9, [0, 1, 2, 3, 4, 5, 6, 7, 8]), (10, [0, 1, 2, 3, 4, 5, 6, 7, 8, 9]), (11, [0, 1, 2, 3, 4, 5, 6, 7, 8, 9]), (12, [0, 1, 2, 3, 4, 5, 6, 7, 8, 9]), (13, [0, 1, 2, 3, 4, 5, 6, 7, 8, 9, 10, 11, 12]), (14, [0, 1, 2, 3, 4, 5, 6, 7, 8, 9, 10, 11, 12]), (15, [0, 1, 2, 3, 4, 5, 6, 7, 8, 9, 10, 11, 12]), (16, [0, 1, 2, 3, 4, 5, 6, 7, 8, 9, 10, 11, 12]), (17, [9, 13, 14, 15, 16]), (18, [9, 13, 14, 15, 16]), (19, []), (20, [])] (by decide +kernel) ?_; conv => whnf)
    | (refine RegX.rule (id := 12) hT rfl [] [(0, []), (1, [0]), (2, [0]), (3, [0]), (4, [0]), (5, [0, 1, 2, 3, 4]), (6, [0, 1, 2, 3, 4, 5]), (7, [0, 1, 2, 3, 4, 5, 6]), (8, [0, 1, 2, 3, 4, 5, 6]), (9, [0, 1, 2, 3, 4]), (10, [0, 1, 2, 3, 4]), (11, [0]), (12, []), (13, []), (14, [])] (by decide +kernel) ?_; conv => whnf)
    | omega
    | (refine And.intro ?_ ?_; ((try dsimp only); first | omega | (refine ⟨by omega, by omega, Int.le_trans (Int.mul_le_mul_of_nonneg_right (Int.ofNat_le.2 (Nat.le_of_ble_eq_true (rfl : Nat.ble _ 1024 = true))) (by omega)) (by omega), by omega⟩) | (refine Nat.le_trans (Nat.mul_le_mul_left _ (Nat.le_of_ble_eq_true (rfl : Nat.ble _ 1024 = true))) ?_; omega) | (unfold inI64; omega) | (constructor <;> omega) | (simp only [inI64, List.length_cons, List.length_append, List.length_nil, List.length_set] at *; omega) | decide | (unfold inI64; decide)); conv => whnf)
    | omega | decide | assumption)
  refine .freeze _ 15 3 1 _ _ rfl (.freeze _ 18 3 1 _ _ rfl (.ret _ ?_))
  conv => whnf
  refine ⟨_, ⟨rfl, rfl⟩, Res.le_refl _, Res.le_fro rfl ?_, Res.le_fro rfl ?_, Res.le_buf rfl ?_, trivial⟩
  · intro i hi
    have : i = 0 ∨ i = 1 := by simp [tN] at hi; omega
    rcases this with rfl | rfl <;> rfl
  · intro i hi
    have : i = 0 ∨ i = 1 := by simp [tN] at hi; omega
    rcases this with rfl | rfl <;> rfl
  · intro i hi
    have : i = 0 := by simp at hi; omega
    subst this; rfl
-- slices.Clone of numbers
theorem s166 (l : List Int) (hl : l.length ≤ 2^20) (h0 : 0 < l.length) : FSpec Tryz.prog 113 [.d (ints l)] [] (fun y r => y = .buf 7 ∧ r = [(7, seqB 3 1 iF 0 l)]) := by
  refine spec_of hT (C := [5]) Tryz.func113 rfl Tryz.call113 rfl rfl rfl ?_
  conv => whnf
  rintro b hbn
  conv => whnf
  repeat' (first
    | (refine br_intro (fun hb => ?_) (fun hb => ?_) <;> (try simp only [decide_eq_true_eq, decide_eq_false_iff_not, Bool.not_eq_true', Bool.not_eq_false', Bool.and_eq_true, Bool.or_eq_true, beq_iff_eq, not_and, Int.not_le, Int.not_lt, Int.toNat_natCast, beq_eq_false_iff_ne, ne_eq, eq_self, not_true_eq_false, not_false_eq_true] at hb) <;> (conv => whnf))
    | omega
    | (refine And.intro ?_ ?_; ((try dsimp only); first | omega | (refine ⟨by omega, by omega, Int.le_trans (Int.mul_le_mul_of_nonneg_right (Int.ofNat_le.2 (Nat.le_of_ble_eq_true (rfl : Nat.ble _ 1024 = true))) (by omega)) (by omega), by omega⟩) | (refine Nat.le_trans (Nat.mul_le_mul_left _ (Nat.le_of_ble_eq_true (rfl : Nat.ble _ 1024 = true))) ?_; omega) | (unfold inI64; omega) | (constructor <;> omega) | (simp only [inI64, List.length_cons, List.length_append, List.length_nil, List.length_set] at *; omega) | decide | (unfold inI64; decide)); conv => whnf)
    | omega | decide | assumption)
  · exact absurd (hbn (by assumption)) (by omega)
  · refine .ret _ ?_
    conv => whnf
    refine ⟨_, ⟨rfl, rfl⟩, Res.le_buf (by simp) (fun i hi => ?_), trivial⟩
    rw [appGet_ge (by omega)]; rfl
-- slices.Clone of no arcs
theorem s168e (g : Nat → List DV) : FSpec Tryz.prog 115 [.d (.ro 4 0 g)] [] (fun y r => y = .d (seqD 4 arF ar0 []) ∧ r = []) := by
  refine spec_of hT (C := [5]) Tryz.func115 rfl Tryz.call115 rfl rfl rfl ?_
  conv => whnf
  rintro b hbn
  conv => whnf
  repeat' (first
    | (refine br_intro (fun hb => ?_) (fun hb => ?_) <;> (try simp only [decide_eq_true_eq, decide_eq_false_iff_not, Bool.not_eq_true', Bool.not_eq_false', Bool.and_eq_true, Bool.or_eq_true, beq_iff_eq, not_and, Int.not_le, Int.not_lt, Int.toNat_natCast, beq_eq_false_iff_ne, ne_eq, eq_self, not_true_eq_false, not_false_eq_true] at hb) <;> (conv => whnf))
    | omega
    | (refine And.intro ?_ ?_; ((try dsimp only); first | omega | (refine ⟨by omega, by omega, Int.le_trans (Int.mul_le_mul_of_nonneg_right (Int.ofNat_le.2 (Nat.le_of_ble_eq_true (rfl : Nat.ble _ 1024 = true))) (by omega)) (by omega), by omega⟩) | (refine Nat.le_trans (Nat.mul_le_mul_left _ (Nat.le_of_ble_eq_true (rfl : Nat.ble _ 1024 = true))) ?_; omega) | (unfold inI64; omega) | (constructor <;> omega) | (simp only [inI64, List.length_cons, List.length_append, List.length_nil, List.length_set] at *; omega) | decide | (unfold inI64; decide)); conv => whnf)
    | omega | decide | assumption)
  · refine .weak _ ?_
    conv => whnf
    exact ⟨_, [], SV.le_nilS, ⟨rfl, rfl⟩, trivial⟩
  · refine .freeze _ 7 120 4 _ _ rfl (.weak _ ?_)
    conv => whnf
    exact ⟨_, [], SV.le_ro (by simp) (fun i hi => absurd hi (by simp)), ⟨rfl, rfl⟩, trivial⟩
end Go.Proofs.YtnchgjpdggembaaGreat
set_option maxRecDepth 20000
namespace Go.Proofs.YtnchgjpdggembaaGreat
open Go Go.Eng
def stF : Int × Bool → List DV := fun s => [.int .i64 s.1, .bool s.2]
abbrev steps (l : List (Int × Bool)) : DV := seqD 2 stF (0, false) l
abbrev tpC : Res := .cells 118 [.buf 1000001, .buf 1000002, .buf 1000003]
abbrev tpB (h w : List Int) (l : List Arc) : List (Nat × Res) := [(1000000, tpC), (1000001, froI h), (1000002, froI w), (1000003, arcB l)]
abbrev tpD (h w : List Int) : List (Nat × Res) := [(1000000, .cells 118 [.buf 1000001, .buf 1000002, .d (seqD 4 arF ar0 [])]), (1000001, froI h), (1000002, froI w)]
-- ways, of the try
set_option maxHeartbeats 4000000 in
theorem s167a : FSpec Tryz.prog 114 [.ptr 1000000 0, .buf 1000004] ([(1000004, seqB 3 1 iF 0 [1, 0])] ++ tpB [1, 0] [0, 1] [⟨0, 1, 4, 0⟩])
    (fun y r => y = .tup [.d (ints [0, 4]), .d (steps [(-1, false), (0, false)])] ∧ r = [(1000004, seqB 3 1 iF 0 [1, 0])] ++ tpB [1, 0] [0, 1] [⟨0, 1, 4, 0⟩]) := by
  refine spec_of hT (C := []) Tryz.func114 rfl Tryz.call114 rfl rfl rfl ?_
  conv => whnf
  repeat' (first
    | (refine LoopX.run hT (C := []) 6 rfl [0, 1, 4, 5, 23, 24] [1000000, 1000001, 1000002, 1000003, 1000004] (fun _ _ h => h) (fun _ h => h) ?_; conv => whnf)
    | (refine LoopX.run hT (C := []) 20 rfl [0, 4, 5, 7] [1000000, 1000001, 1000002, 1000003, 1000004] (fun _ _ h => h) (fun _ h => h) ?_; conv => whnf)
    | (refine LoopX.run hT (C := []) 26 rfl [0, 4, 5, 7, 47, 48, 49] [1000000, 1000001, 1000002, 1000003, 1000004] (fun _ _ h => h) (fun _ h => h) ?_; conv => whnf)
    | (refine br_intro (fun hb => ?_) (fun hb => ?_) <;> (try simp only [decide_eq_true_eq, decide_eq_false_iff_not, Bool.not_eq_true', Bool.not_eq_false', Bool.and_eq_true, Bool.or_eq_true, beq_iff_eq, not_and, Int.not_le, Int.not_lt, Int.toNat_natCast, beq_eq_false_iff_ne, ne_eq, eq_self, not_true_eq_false, not_false_eq_true] at hb) <;> (conv => whnf))
    | (refine RegX.rule (id := 1) hT rfl [] [(0, []), (1, []), (2, []), (3, []), (4, []), (5, []), (6, [0, 1, 2, 3, 4, 5]), (7, [0, 1, 2, 3, 4, 5]), (8, [0, 1, 2, 3, 4, 5]), (9, [0, 1, 2, 3, 4, 5]), (10, [0, 1, 2, 3, 4, 5]), (11, [0, 1, 2, 3, 4, 5]), (12, [6, 7, 8, 9, 10, 11]), (13, [])] (by decide +kernel) ?_; conv => whnf)
    | (refine RegX.rule (id := 15) hT rfl [] [(0, []), (1, [0]), (2, [0]), (3, []), (4, []), (5, []), (6, []), (7, []), (8, [7]), (9, [7]), (10, []), (11, []), (12, [7, 8, 9, 10, 11]), (13, [7, 8, 9, 10, 11]), (14, []), (15, [7, 8, 9, 10, 11, 12, 13, 14]), (16, [7, 8, 9, 10, 11, 12, 13, 14, 15]), (17, [7, 8, 9, 10, 11, 12, 13, 14, 15]), (18, [7, 8, 9, 10, 11, 12, 13, 14]), (19, [7, 8, 9, 10, 11, 12, 13, 14]), (20, []), (21, [])] (by decide +kernel) ?_; conv => whnf)
    | (refine RegX.rule (id := 16) hT rfl [] [(0, []), (1, [0]), (2, [0]), (3, [0, 1, 2]), (4, [0, 1, 2, 3]), (5, [0, 1, 2, 3]), (6, [0, 1, 2, 3, 4, 5]), (7, [0, 1, 2, 3, 4, 5, 6]), (8, [0, 1, 2, 3, 4, 5, 6]), (9, [0, 1, 2, 3, 4, 5]), (10, [0, 1, 2, 3, 4, 5]), (11, [0, 1, 2, 3, 4, 5, 6, 7, 8, 9, 10]), (12, [0, 1, 2, 3, 4, 5, 6, 7, 8, 9, 10]), (13, [0, 1, 2, 3, 4, 5]), (14, [0, 1, 2, 3, 4, 5, 6, 7, 8, 9, 10, 11, 12, 13]), (15, [0, 1, 2, 3, 4, 5, 6, 7, 8, 9, 10, 11, 12, 13]), (16, [3, 4, 5, 14, 15]), (17, [3, 4, 5, 14, 15]), (18, []), (19, []), (20, [])] (by decide +kernel) ?_; conv => whnf)
    | (refine RegX.rule (id := 17) hT rfl [] [(0, []), (1, []), (2, []), (3, []), (4, []), (5, [4]), (6, [4]), (7, []), (8, []), (9, []), (10, []), (11, []), (12, []), (13, [12]), (14, [12]), (15, []), (16, []), (17, [12, 13, 14, 15, 16]), (18, [12, 13, 14, 15, 16]), (19, []), (20, [12, 13, 14, 15, 16, 17, 18, 19]), (21, [12, 13, 14, 15, 16, 17, 18, 19, 20]), (22, [12, 13, 14, 15, 16, 17, 18, 19, 20]), (23, [12, 13, 14, 15, 16, 17, 18, 19]), (24, [12, 13, 14, 15, 16, 17, 18, 19]), (25, []), (26, [])] (by decide +kernel) ?_; conv => whnf)
    | (refine RegX.rule (id := 18) hT rfl [] [(0, []), (1, [0]), (2, [0]), (3, [0, 1, 2]), (4, [0, 1, 2, 3]), (5, [0, 1, 2, 3]), (6, [0, 1, 2, 3, 4, 5]), (7, [0, 1, 2, 3, 4, 5, 6]), (8, [0, 1, 2, 3, 4, 5, 6]), (9, [0, 1, 2, 3, 4, 5]), (10, [0, 1, 2, 3, 4, 5]), (11, [0, 1, 2, 3, 4, 5, 6, 7, 8, 9, 10]), (12, [0, 1, 2, 3, 4, 5, 6, 7, 8, 9, 10]), (13, [0, 1, 2, 3, 4, 5]), (14, [0, 1, 2, 3, 4, 5, 6, 7, 8, 9, 10, 11, 12, 13]), (15, [0, 1, 2, 3, 4, 5, 6, 7, 8, 9, 10, 11, 12, 13]), (16, [3, 4, 5, 14, 15]), (17, [3, 4, 5, 14, 15]), (18, []), (19, []), (20, [])] (by decide +kernel) ?_; conv => whnf)
    | omega
    | (refine And.intro ?_ ?_; ((try dsimp only); first | omega | (refine ⟨by omega, by omega, Int.le_trans (Int.mul_le_mul_of_nonneg_right (Int.ofNat_le.2 (Nat.le_of_ble_eq_true (rfl : Nat.ble _ 1024 = true))) (by omega)) (by omega), by omega⟩) | (refine Nat.le_trans (Nat.mul_le_mul_left _ (Nat.le_of_ble_eq_true (rfl : Nat.ble _ 1024 = true))) ?_; omega) | (unfold inI64; omega) | (constructor <;> omega) | (simp only [inI64, List.length_cons, List.length_append, List.length_nil, List.length_set] at *; omega) | decide | (unfold inI64; decide)); conv => whnf)
    | omega | decide | assumption)
  refine .freeze _ 15 3 1 _ _ rfl (.freeze _ 21 170 2 _ _ rfl (.weak _ ?_))
  conv => whnf
  refine ⟨.tup [.d (ints [0, 4]), .d (steps [(-1, false), (0, false)])], _, SV.le_tup ⟨SV.le_ro rfl ?_, SV.le_ro rfl ?_, trivial⟩, ⟨rfl, rfl⟩, ?_⟩
  · intro i hi
    have : i = 0 ∨ i = 1 := by simp at hi; omega
    rcases this with rfl | rfl <;> rfl
  · intro i hi
    have : i = 0 ∨ i = 1 := by simp at hi; omega
    rcases this with rfl | rfl <;> rfl
  · refine ⟨Res.le_refl _, Res.le_refl _, Res.le_refl _, Res.le_refl _, ?_⟩
    first | exact trivial | exact ⟨Res.le_refl _, trivial⟩
set_option maxHeartbeats 4000000 in
theorem s167b : FSpec Tryz.prog 114 [.ptr 1000000 0, .buf 1000004] ([(1000004, seqB 3 1 iF 0 [0, 0])] ++ tpB [1, 0] [0, 1] [⟨0, 1, 4, 1⟩])
    (fun y r => y = .tup [.d (ints [1125899906842624, 1125899906842624]), .d (steps [(-1, false), (-1, false)])] ∧ r = [(1000004, seqB 3 1 iF 0 [0, 0])] ++ tpB [1, 0] [0, 1] [⟨0, 1, 4, 1⟩]) := by
  refine spec_of hT (C := []) Tryz.func114 rfl Tryz.call114 rfl rfl rfl ?_
  conv => whnf
  repeat' (first
    | (refine LoopX.run hT (C := []) 6 rfl [0, 1, 4, 5, 23, 24] [1000000, 1000001, 1000002, 1000003, 1000004] (fun _ _ h => h) (fun _ h => h) ?_; conv => whnf)
    | (refine LoopX.run hT (C := []) 20 rfl [0, 4, 5, 7] [1000000, 1000001, 1000002, 1000003, 1000004] (fun _ _ h => h) (fun _ h => h) ?_; conv => whnf)
    | (refine LoopX.run hT (C := []) 26 rfl [0, 4, 5, 7, 47, 48, 49] [1000000, 1000001, 1000002, 1000003, 1000004] (fun _ _ h => h) (fun _ h => h) ?_; conv => whnf)
    | (refine br_intro (fun hb => ?_) (fun hb => ?_) <;> (try simp only [decide_eq_true_eq, decide_eq_false_iff_not, Bool.not_eq_true', Bool.not_eq_false', Bool.and_eq_true, Bool.or_eq_true, beq_iff_eq, not_and, Int.not_le, Int.not_lt, Int.toNat_natCast, beq_eq_false_iff_ne, ne_eq, eq_self, not_true_eq_false, not_false_eq_true] at hb) <;> (conv => whnf))
    | (refine RegX.rule (id := 1) hT rfl [] [(0, []), (1, []), (2, []), (3, []), (4, []), (5, []), (6, [0, 1, 2, 3, 4, 5]), (7, [0, 1, 2, 3, 4, 5]), (8, [0, 1, 2, 3, 4, 5]), (9, [0, 1, 2, 3, 4, 5]), (10, [0, 1, 2, 3, 4, 5]), (11, [0, 1, 2, 3, 4, 5]), (12, [6, 7, 8, 9, 10, 11]), (13, [])] (by decide +kernel) ?_; conv => whnf)
    | (refine RegX.rule (id := 15) hT rfl [] [(0, []), (1, [0]), (2, [0]), (3, []), (4, []), (5, []), (6, []), (7, []), (8, [7]), (9, [7]), (10, []), (11, []), (12, [7, 8, 9, 10, 11]), (13, [7, 8, 9, 10, 11]), (14, []), (15, [7, 8, 9, 10, 11, 12, 13, 14]), (16, [7, 8, 9, 10, 11, 12, 13, 14, 15]), (17, [7, 8, 9, 10, 11, 12, 13, 14, 15]), (18, [7, 8, 9, 10, 11, 12, 13, 14]), (19, [7, 8, 9, 10, 11, 12, 13, 14]), (20, []), (21, [])] (by decide +kernel) ?_; conv => whnf)
    | (refine RegX.rule (id := 16) hT rfl [] [(0, []), (1, [0]), (2, [0]), (3, [0, 1, 2]), (4, [0, 1, 2, 3]), (5, [0, 1, 2, 3]), (6, [0, 1, 2, 3, 4, 5]), (7, [0, 1, 2, 3, 4, 5, 6]), (8, [0, 1, 2, 3, 4, 5, 6]), (9, [0, 1, 2, 3, 4, 5]), (10, [0, 1, 2, 3, 4, 5]), (11, [0, 1, 2, 3, 4, 5, 6, 7, 8, 9, 10]), (12, [0, 1, 2, 3, 4, 5, 6, 7, 8, 9, 10]), (13, [0, 1, 2, 3, 4, 5]), (14, [0, 1, 2, 3, 4, 5, 6, 7, 8, 9, 10, 11, 12, 13]), (15, [0, 1, 2, 3, 4, 5, 6, 7, 8, 9, 10, 11, 12, 13]), (16, [3, 4, 5, 14, 15]), (17, [3, 4, 5, 14, 15]), (18, []), (19, []), (20, [])] (by decide +kernel) ?_; conv => whnf)
    | (refine RegX.rule (id := 17) hT rfl [] [(0, []), (1, []), (2, []), (3, []), (4, []), (5, [4]), (6, [4]), (7, []), (8, []), (9, []), (10, []), (11, []), (12, []), (13, [12]), (14, [12]), (15, []), (16, []), (17, [12, 13, 14, 15, 16]), (18, [12, 13, 14, 15, 16]), (19, []), (20, [12, 13, 14, 15, 16, 17, 18, 19]), (21, [12, 13, 14, 15, 16, 17, 18, 19, 20]), (22, [12, 13, 14, 15, 16, 17, 18, 19, 20]), (23, [12, 13, 14, 15, 16, 17, 18, 19]), (24, [12, 13, 14, 15, 16, 17, 18, 19]), (25, []), (26, [])] (by decide +kernel) ?_; conv => whnf)
    | (refine RegX.rule (id := 18) hT rfl [] [(0, []), (1, [0]), (2, [0]), (3, [0, 1, 2]), (4, [0, 1, 2, 3]), (5, [0, 1, 2, 3]), (6, [0, 1, 2, 3, 4, 5]), (7, [0, 1, 2, 3, 4, 5, 6]), (8, [0, 1, 2, 3, 4, 5, 6]), (9, [0, 1, 2, 3, 4, 5]), (10, [0, 1, 2, 3, 4, 5]), (11, [0, 1, 2, 3, 4, 5, 6, 7, 8, 9, 10]), (12, [0, 1, 2, 3, 4, 5, 6, 7, 8, 9, 10]), (13, [0, 1, 2, 3, 4, 5]), (14, [0, 1, 2, 3, 4, 5, 6, 7, 8, 9, 10, 11, 12, 13]), (15, [0, 1, 2, 3, 4, 5, 6, 7, 8, 9, 10, 11, 12, 13]), (16, [3, 4, 5, 14, 15]), (17, [3, 4, 5, 14, 15]), (18, []), (19, []), (20, [])] (by decide +kernel) ?_; conv => whnf)
    | omega
    | (refine And.intro ?_ ?_; ((try dsimp only); first | omega | (refine ⟨by omega, by omega, Int.le_trans (Int.mul_le_mul_of_nonneg_right (Int.ofNat_le.2 (Nat.le_of_ble_eq_true (rfl : Nat.ble _ 1024 = true))) (by omega)) (by omega), by omega⟩) | (refine Nat.le_trans (Nat.mul_le_mul_left _ (Nat.le_of_ble_eq_true (rfl : Nat.ble _ 1024 = true))) ?_; omega) | (unfold inI64; omega) | (constructor <;> omega) | (simp only [inI64, List.length_cons, List.length_append, List.length_nil, List.length_set] at *; omega) | decide | (unfold inI64; decide)); conv => whnf)
    | omega | decide | assumption)
  refine .freeze _ 15 3 1 _ _ rfl (.freeze _ 21 170 2 _ _ rfl (.weak _ ?_))
  conv => whnf
  refine ⟨.tup [.d (ints [1125899906842624, 1125899906842624]), .d (steps [(-1, false), (-1, false)])], _, SV.le_tup ⟨SV.le_ro rfl ?_, SV.le_ro rfl ?_, trivial⟩, ⟨rfl, rfl⟩, ?_⟩
  · intro i hi
    have : i = 0 ∨ i = 1 := by simp at hi; omega
    rcases this with rfl | rfl <;> rfl
  · intro i hi
    have : i = 0 ∨ i = 1 := by simp at hi; omega
    rcases this with rfl | rfl <;> rfl
  · refine ⟨Res.le_refl _, Res.le_refl _, Res.le_refl _, Res.le_refl _, ?_⟩
    first | exact trivial | exact ⟨Res.le_refl _, trivial⟩
set_option maxHeartbeats 4000000 in
theorem s167c : FSpec Tryz.prog 114 [.ptr 1000000 0, .buf 1000004] ([(1000004, seqB 3 1 iF 0 [0, 0])] ++ tpD [0, 0] [0, 0])
    (fun y r => y = .tup [.d (ints [1125899906842624, 1125899906842624]), .d (steps [(-1, false), (-1, false)])] ∧ r = [(1000004, seqB 3 1 iF 0 [0, 0])] ++ tpD [0, 0] [0, 0]) := by
  refine spec_of hT (C := []) Tryz.func114 rfl Tryz.call114 rfl rfl rfl ?_
  conv => whnf
  repeat' (first
    | (refine LoopX.run hT (C := []) 6 rfl [0, 1, 4, 5, 23, 24] [1000000, 1000001, 1000002, 1000004] (fun _ _ h => h) (fun _ h => h) ?_; conv => whnf)
    | (refine LoopX.run hT (C := []) 20 rfl [0, 4, 5, 7] [1000000, 1000001, 1000002, 1000004] (fun _ _ h => h) (fun _ h => h) ?_; conv => whnf)
    | (refine LoopX.run hT (C := []) 26 rfl [0, 4, 5, 7, 47, 48, 49] [1000000, 1000001, 1000002, 1000004] (fun _ _ h => h) (fun _ h => h) ?_; conv => whnf)
    | (refine br_intro (fun hb => ?_) (fun hb => ?_) <;> (try simp only [decide_eq_true_eq, decide_eq_false_iff_not, Bool.not_eq_true', Bool.not_eq_false', Bool.and_eq_true, Bool.or_eq_true, beq_iff_eq, not_and, Int.not_le, Int.not_lt, Int.toNat_natCast, beq_eq_false_iff_ne, ne_eq, eq_self, not_true_eq_false, not_false_eq_true] at hb) <;> (conv => whnf))
    | (refine RegX.rule (id := 1) hT rfl [] [(0, []), (1, []), (2, []), (3, []), (4, []), (5, []), (6, [0, 1, 2, 3, 4, 5]), (7, [0, 1, 2, 3, 4, 5]), (8, [0, 1, 2, 3, 4, 5]), (9, [0, 1, 2, 3, 4, 5]), (10, [0, 1, 2, 3, 4, 5]), (11, [0, 1, 2, 3, 4, 5]), (12, [6, 7, 8, 9, 10, 11]), (13, [])] (by decide +kernel) ?_; conv => whnf)
    | (refine RegX.rule (id := 15) hT rfl [] [(0, []), (1, [0]), (2, [0]), (3, []), (4, []), (5, []), (6, []), (7, []), (8, [7]), (9, [7]), (10, []), (11, []), (12, [7, 8, 9, 10, 11]), (13, [7, 8, 9, 10, 11]), (14, []), (15, [7, 8, 9, 10, 11, 12, 13, 14]), (16, [7, 8, 9, 10, 11, 12, 13, 14, 15]), (17, [7, 8, 9, 10, 11, 12, 13, 14, 15]), (18, [7, 8, 9, 10, 11, 12, 13, 14]), (19, [7, 8, 9, 10, 11, 12, 13, 14]), (20, []), (21, [])] (by decide +kernel) ?_; conv => whnf)
    | (refine RegX.rule (id := 16) hT rfl [] [(0, []), (1, [0]), (2, [0]), (3, [0, 1, 2]), (4, [0, 1, 2, 3]), (5, [0, 1, 2, 3]), (6, [0, 1, 2, 3, 4, 5]), (7, [0, 1, 2, 3, 4, 5, 6]), (8, [0, 1, 2, 3, 4, 5, 6]), (9, [0, 1, 2, 3, 4, 5]), (10, [0, 1, 2, 3, 4, 5]), (11, [0, 1, 2, 3, 4, 5, 6, 7, 8, 9, 10]), (12, [0, 1, 2, 3, 4, 5, 6, 7, 8, 9, 10]), (13, [0, 1, 2, 3, 4, 5]), (14, [0, 1, 2, 3, 4, 5, 6, 7, 8, 9, 10, 11, 12, 13]), (15, [0, 1, 2, 3, 4, 5, 6, 7, 8, 9, 10, 11, 12, 13]), (16, [3, 4, 5, 14, 15]), (17, [3, 4, 5, 14, 15]), (18, []), (19, []), (20, [])] (by decide +kernel) ?_; conv => whnf)
    | (refine RegX.rule (id := 17) hT rfl [] [(0, []), (1, []), (2, []), (3, []), (4, []), (5, [4]), (6, [4]), (7, []), (8, []), (9, []), (10, []), (11, []), (12, []), (13, [12]), (14, [12]), (15, []), (16, []), (17, [12, 13, 14, 15, 16]), (18, [12, 13, 14, 15, 16]), (19, []), (20, [12, 13, 14, 15, 16, 17, 18, 19]), (21, [12, 13, 14, 15, 16, 17, 18, 19, 20]), (22, [12, 13, 14, 15, 16, 17, 18, 19, 20]), (23, [12, 13, 14, 15, 16, 17, 18, 19]), (24, [12, 13, 14, 15, 16, 17, 18, 19]), (25, []), (26, [])] (by decide +kernel) ?_; conv => whnf)
    | (refine RegX.rule (id := 18) hT rfl [] [(0, []), (1, [0]), (2, [0]), (3, [0, 1, 2]), (4, [0, 1, 2, 3]), (5, [0, 1, 2, 3]), (6, [0, 1, 2, 3, 4, 5]), (7, [0, 1, 2, 3, 4, 5, 6]), (8, [0, 1, 2, 3, 4, 5, 6]), (9, [0, 1, 2, 3, 4, 5]), (10, [0, 1, 2, 3, 4, 5]), (11, [0, 1, 2, 3, 4, 5, 6, 7, 8, 9, 10]), (12, [0, 1, 2, 3, 4, 5, 6, 7, 8, 9, 10]), (13, [0, 1, 2, 3, 4, 5]), (14, [0, 1, 2, 3, 4, 5, 6, 7, 8, 9, 10, 11, 12, 13]), (15, [0, 1, 2, 3, 4, 5, 6, 7, 8, 9, 10, 11, 12, 13]), (16, [3, 4, 5, 14, 15]), (17, [3, 4, 5, 14, 15]), (18, []), (19, []), (20, [])] (by decide +kernel) ?_; conv => whnf)
    | omega
    | (refine And.intro ?_ ?_; ((try dsimp only); first | omega | (refine ⟨by omega, by omega, Int.le_trans (Int.mul_le_mul_of_nonneg_right (Int.ofNat_le.2 (Nat.le_of_ble_eq_true (rfl : Nat.ble _ 1024 = true))) (by omega)) (by omega), by omega⟩) | (refine Nat.le_trans (Nat.mul_le_mul_left _ (Nat.le_of_ble_eq_true (rfl : Nat.ble _ 1024 = true))) ?_; omega) | (unfold inI64; omega) | (constructor <;> omega) | (simp only [inI64, List.length_cons, List.length_append, List.length_nil, List.length_set] at *; omega) | decide | (unfold inI64; decide)); conv => whnf)
    | omega | decide | assumption)
  refine .freeze _ 15 3 1 _ _ rfl (.freeze _ 21 170 2 _ _ rfl (.weak _ ?_))
  conv => whnf
  refine ⟨.tup [.d (ints [1125899906842624, 1125899906842624]), .d (steps [(-1, false), (-1, false)])], _, SV.le_tup ⟨SV.le_ro rfl ?_, SV.le_ro rfl ?_, trivial⟩, ⟨rfl, rfl⟩, ?_⟩
  · intro i hi
    have : i = 0 ∨ i = 1 := by simp at hi; omega
    rcases this with rfl | rfl <;> rfl
  · intro i hi
    have : i = 0 ∨ i = 1 := by simp at hi; omega
    rcases this with rfl | rfl <;> rfl
  · refine ⟨Res.le_refl _, Res.le_refl _, Res.le_refl _, Res.le_refl _, ?_⟩
    first | exact trivial | exact ⟨Res.le_refl _, trivial⟩
-- rest, of the try
set_option maxHeartbeats 4000000 in
theorem s116t : FSpec Tryz.prog 68 [.ptr 1000000 0, .d (.int .i64 1), .d (.int .i64 0), .d (.int .i64 1), .d (.int .i64 1)] [(1000000, tpC), (1000001, froI [1, 0]), (1000002, froI [0, 1]), (1000003, .fro 4 1 (rowF arF ar0 [⟨0, 1, 4, 1⟩]))]
    (fun y r => y = .ptr 30 0 ∧ r = [(1000000, tpC), (1000001, froI [1, 0]), (1000002, froI [0, 1]), (1000003, .fro 4 1 (rowF arF ar0 [⟨0, 1, 4, 1⟩])), (30, .cells 118 [.buf 16, .buf 21, .d (seqD 4 arF ar0 [])]), (16, froI [0, 0]), (21, froI [0, 0])]) := by
  refine spec_of hT (C := []) Tryz.func68 rfl Tryz.call68 rfl rfl rfl ?_
  conv => whnf
  refine RegX.rule hT rfl [] [(0, []), (1, []), (2, []), (3, []), (5, [0, 1, 2, 3]), (6, [0, 1, 2, 3]), (7, [0, 1, 2, 3]), (8, [0, 1, 2, 3]), (10, [0, 1, 2, 3, 5, 6, 7, 8]), (11, [0, 1, 2, 3, 5, 6, 7, 8]), (12, [0, 1, 2, 3, 5, 6, 7, 8]), (13, [0, 1, 2, 3, 5, 6, 7, 8]), (14, [0, 1, 2, 3, 5, 6, 7, 8, 10, 11, 12, 13]), (15, [0, 1, 2, 3, 5, 6, 7, 8]), (4, [5, 6, 7, 8, 10, 11, 12, 13, 14, 15]), (9, [10, 11, 12, 13, 14, 15]), (16, []), (17, []), (18, []), (19, [])] (by decide +kernel) ?_
  conv => whnf
  repeat' (first
    | (refine CallX.of (s166 [1, 0] (by simp) (by simp)) [(7, 16)] rfl ⟨SV.le_refl _, trivial⟩ trivial rfl rfl ?_; rintro x rout ⟨rfl, rfl⟩; refine ⟨rfl, ?_⟩; conv => whnf)
    | (refine CallX.of (s166 [0, 1] (by simp) (by simp)) [(7, 21)] rfl ⟨SV.le_refl _, trivial⟩ trivial rfl rfl ?_; rintro x rout ⟨rfl, rfl⟩; refine ⟨rfl, ?_⟩; conv => whnf)
    | (refine CallX.pure (s168e _) ⟨SV.le_refl _, trivial⟩ rfl ?_; conv => whnf)
    | (refine br_intro (fun hb => ?_) (fun hb => ?_) <;> (try simp only [decide_eq_true_eq, decide_eq_false_iff_not, Bool.not_eq_true', Bool.not_eq_false', Bool.and_eq_true, Bool.or_eq_true, beq_iff_eq, not_and, Int.not_le, Int.not_lt, Int.toNat_natCast, beq_eq_false_iff_ne, ne_eq, eq_self, not_true_eq_false, not_false_eq_true] at hb) <;> (conv => whnf))
    | (refine RegX.rule (id := 1) hT rfl [] [(0, []), (1, []), (2, []), (3, []), (5, [0, 1, 2, 3]), (6, [0, 1, 2, 3]), (7, [0, 1, 2, 3]), (8, [0, 1, 2, 3]), (10, [0, 1, 2, 3, 5, 6, 7, 8]), (11, [0, 1, 2, 3, 5, 6, 7, 8]), (12, [0, 1, 2, 3, 5, 6, 7, 8]), (13, [0, 1, 2, 3, 5, 6, 7, 8]), (14, [0, 1, 2, 3, 5, 6, 7, 8, 10, 11, 12, 13]), (15, [0, 1, 2, 3, 5, 6, 7, 8]), (4, [5, 6, 7, 8, 10, 11, 12, 13, 14, 15]), (9, [10, 11, 12, 13, 14, 15]), (16, []), (17, []), (18, []), (19, [])] (by decide +kernel) ?_; conv => whnf)
    | omega
    | (refine And.intro ?_ ?_; ((try dsimp only); first | omega | (refine ⟨by omega, by omega, Int.le_trans (Int.mul_le_mul_of_nonneg_right (Int.ofNat_le.2 (Nat.le_of_ble_eq_true (rfl : Nat.ble _ 1024 = true))) (by omega)) (by omega), by omega⟩) | (refine Nat.le_trans (Nat.mul_le_mul_left _ (Nat.le_of_ble_eq_true (rfl : Nat.ble _ 1024 = true))) ?_; omega) | (unfold inI64; omega) | (constructor <;> omega) | (simp only [inI64, List.length_cons, List.length_append, List.length_nil, List.length_set] at *; omega) | decide | (unfold inI64; decide)); conv => whnf)
    | omega | decide | assumption)
  refine .freeze _ 16 3 1 _ _ rfl (.freeze _ 21 3 1 _ _ rfl (.ret _ ?_))
  conv => whnf
  refine ⟨_, ⟨rfl, rfl⟩, Res.le_refl _, Res.le_refl _, Res.le_refl _, Res.le_refl _, Res.le_refl _, Res.le_fro rfl ?_, Res.le_fro rfl ?_, trivial⟩
  · intro i hi
    have : i = 0 ∨ i = 1 := by simp at hi; omega
    rcases this with rfl | rfl <;> rfl
  · intro i hi
    have : i = 0 ∨ i = 1 := by simp at hi; omega
    rcases this with rfl | rfl <;> rfl
end Go.Proofs.YtnchgjpdggembaaGreat
set_option maxRecDepth 20000
namespace Go.Proofs.YtnchgjpdggembaaGreat
open Go Go.Eng
-- solve, of the try
set_option maxHeartbeats 8000000 in
theorem s115a : FSpec Tryz.prog 67 [.ptr 1000000 0] (tpB [1, 0] [0, 1] [⟨0, 1, 4, 0⟩]) (fun y r => y = .tup [.d (.int .i64 4), .d (.bool true)] ∧ r = tpB [1, 0] [0, 1] [⟨0, 1, 4, 1⟩]) := by
  refine spec_of hT (C := []) Tryz.func67 rfl Tryz.call67 rfl rfl rfl ?_
  conv => whnf
  refine RegX.rule hT rfl [] [(0, []), (1, []), (2, []), (3, []), (5, [0, 1, 2, 3]), (6, [0, 1, 2, 3]), (7, [0, 1, 2, 3]), (8, [0, 1, 2, 3]), (4, [5, 6, 7, 8]), (9, []), (10, []), (11, [])] (by decide +kernel) ?_
  conv => whnf
  repeat' (first
    | (refine CallX.of (s166 [1, 0] (by simp) (by simp)) [(7, 22)] rfl ⟨SV.le_refl _, trivial⟩ trivial rfl rfl ?_; rintro x rout ⟨rfl, rfl⟩; refine ⟨rfl, ?_⟩; conv => whnf)
    | (refine CallX.of (s166 [0, 1] (by simp) (by simp)) [(7, 27)] rfl ⟨SV.le_refl _, trivial⟩ trivial rfl rfl ?_; rintro x rout ⟨rfl, rfl⟩; refine ⟨rfl, ?_⟩; conv => whnf)
    | (refine CallX.of s167a [(1000000, 1000000), (1000001, 1000001), (1000002, 1000002), (1000003, 1000003), (1000004, 22)] rfl ⟨SV.le_refl _, SV.le_refl _, trivial⟩ ⟨(Res.le_buf rfl (fun i hi => by (have : i = 0 ∨ i = 1 := by simp at hi; omega); rcases this with (rfl | rfl) <;> rfl)), Res.le_refl _, Res.le_refl _, Res.le_refl _, (Res.le_buf rfl (fun i hi => by (have : i = 0 := by simp at hi; omega); subst this; rfl)), trivial⟩ rfl rfl ?_; rintro x rout ⟨rfl, rfl⟩; refine ⟨rfl, ?_⟩; conv => whnf)
    | (refine CallX.of s167b [(1000000, 1000000), (1000001, 1000001), (1000002, 1000002), (1000003, 1000003), (1000004, 22)] rfl ⟨SV.le_refl _, SV.le_refl _, trivial⟩ ⟨(Res.le_buf rfl (fun i hi => by (have : i = 0 ∨ i = 1 := by simp at hi; omega); rcases this with (rfl | rfl) <;> rfl)), Res.le_refl _, Res.le_refl _, Res.le_refl _, (Res.le_buf rfl (fun i hi => by (have : i = 0 := by simp at hi; omega); subst this; rfl)), trivial⟩ rfl rfl ?_; rintro x rout ⟨rfl, rfl⟩; refine ⟨rfl, ?_⟩; conv => whnf)
    | (refine LoopX.run hT (C := []) 6 rfl [0, 4, 5, 32, 33] [1000000, 1000001, 1000002, 1000003] (fun _ _ h => h) (fun _ h => h) ?_; conv => whnf)
    | (refine LoopX.run hT (C := []) 7 rfl [0, 4, 5, 7] [1000000, 1000001, 1000002, 1000003] (fun _ _ h => h) (fun _ h => h) ?_; conv => whnf)
    | (refine LoopX.run hT (C := []) 22 rfl [0, 4, 5, 7, 8, 9, 10, 11, 50, 51, 52] [1000000, 1000001, 1000002, 1000003] (fun _ _ h => h) (fun _ h => h) ?_; conv => whnf)
    | (refine LoopX.run hT (C := []) 40 rfl [0, 4, 5, 7, 8, 9, 10, 14, 15] [1000000, 1000001, 1000002, 1000003] (fun _ _ h => h) (fun _ h => h) ?_; conv => whnf)
    | (refine LoopX.run hT (C := []) 60 rfl [0, 4, 5, 7, 9, 14, 15] [1000000, 1000001, 1000002, 1000003] (fun _ _ h => h) (fun _ h => h) ?_; conv => whnf)
    | (refine br_intro (fun hb => ?_) (fun hb => ?_) <;> (try simp only [decide_eq_true_eq, decide_eq_false_iff_not, Bool.not_eq_true', Bool.not_eq_false', Bool.and_eq_true, Bool.or_eq_true, beq_iff_eq, not_and, Int.not_le, Int.not_lt, Int.toNat_natCast, beq_eq_false_iff_ne, ne_eq, eq_self, not_true_eq_false, not_false_eq_true] at hb) <;> (conv => whnf))
    | (refine RegX.rule (id := 1) hT rfl [] [(0, []), (1, []), (2, []), (3, []), (5, [0, 1, 2, 3]), (6, [0, 1, 2, 3]), (7, [0, 1, 2, 3]), (8, [0, 1, 2, 3]), (4, [5, 6, 7, 8]), (9, []), (10, []), (11, [])] (by decide +kernel) ?_; conv => whnf)
    | (refine RegX.rule (id := 14) hT rfl [] [(0, []), (1, []), (2, []), (3, []), (4, [3]), (5, []), (6, []), (7, []), (8, []), (9, []), (10, []), (11, []), (12, []), (13, []), (14, [13]), (15, []), (16, []), (17, [13, 14, 15, 16]), (18, [13, 14, 15, 16, 17]), (19, [13, 14, 15, 16]), (20, [13, 14, 15, 16]), (21, []), (22, []), (23, [])] (by decide +kernel) ?_; conv => whnf)
    | (refine RegX.rule (id := 21) hT rfl [] [(0, []), (1, []), (2, []), (3, []), (4, [0, 1, 2, 3]), (5, [0, 1, 2, 3, 4]), (6, [0, 1, 2, 3]), (7, [0, 1, 2, 3]), (8, [0, 1, 2, 3]), (9, []), (10, []), (11, [0, 1, 2, 3, 4, 5, 6, 7, 8, 9, 10]), (12, [])] (by decide +kernel) ?_; conv => whnf)
    | (refine RegX.rule (id := 23) hT rfl [] [(0, []), (1, [0]), (2, [0]), (3, []), (4, [0, 1, 2, 3]), (5, [0, 1, 2, 3]), (6, [4, 5]), (7, [])] (by decide +kernel) ?_; conv => whnf)
    | (refine RegX.rule (id := 31) hT rfl [] [(0, []), (1, []), (2, []), (3, []), (4, [0, 1, 2, 3]), (5, [0, 1, 2, 3, 4]), (6, [0, 1, 2, 3]), (7, [0, 1, 2, 3]), (8, [0, 1, 2, 3]), (9, []), (10, [])] (by decide +kernel) ?_; conv => whnf)
    | omega
    | (refine And.intro ?_ ?_; ((try dsimp only); first | omega | (refine ⟨by omega, by omega, Int.le_trans (Int.mul_le_mul_of_nonneg_right (Int.ofNat_le.2 (Nat.le_of_ble_eq_true (rfl : Nat.ble _ 1024 = true))) (by omega)) (by omega), by omega⟩) | (refine Nat.le_trans (Nat.mul_le_mul_left _ (Nat.le_of_ble_eq_true (rfl : Nat.ble _ 1024 = true))) ?_; omega) | (unfold inI64; omega) | (constructor <;> omega) | (simp only [inI64, List.length_cons, List.length_append, List.length_nil, List.length_set] at *; omega) | decide | (unfold inI64; decide)); conv => whnf)
    | omega | decide | assumption)
  refine .weak _ ?_
  conv => whnf
  exact ⟨.tup [.d (.int .i64 4), .d (.bool true)], _, SV.le_tup ⟨SV.le_int rfl, SV.le_bool rfl, trivial⟩, ⟨rfl, rfl⟩, Res.le_refl _, Res.le_refl _, Res.le_refl _, (Res.le_buf rfl (fun i hi => by (have : i = 0 := by simp at hi; omega); subst this; rfl)), trivial⟩
set_option maxHeartbeats 8000000 in
theorem s115b : FSpec Tryz.prog 67 [.ptr 1000000 0] (tpD [0, 0] [0, 0]) (fun y r => y = .tup [.d (.int .i64 0), .d (.bool true)] ∧ r = tpD [0, 0] [0, 0]) := by
  refine spec_of hT (C := []) Tryz.func67 rfl Tryz.call67 rfl rfl rfl ?_
  conv => whnf
  refine RegX.rule hT rfl [] [(0, []), (1, []), (2, []), (3, []), (5, [0, 1, 2, 3]), (6, [0, 1, 2, 3]), (7, [0, 1, 2, 3]), (8, [0, 1, 2, 3]), (4, [5, 6, 7, 8]), (9, []), (10, []), (11, [])] (by decide +kernel) ?_
  conv => whnf
  repeat' (first
    | (refine CallX.of (s166 [0, 0] (by simp) (by simp)) [(7, 22)] rfl ⟨SV.le_refl _, trivial⟩ trivial rfl rfl ?_; rintro x rout ⟨rfl, rfl⟩; refine ⟨rfl, ?_⟩; conv => whnf)
    | (refine CallX.of (s166 [0, 0] (by simp) (by simp)) [(7, 27)] rfl ⟨SV.le_refl _, trivial⟩ trivial rfl rfl ?_; rintro x rout ⟨rfl, rfl⟩; refine ⟨rfl, ?_⟩; conv => whnf)
    | (refine CallX.of s167c [(1000000, 1000000), (1000001, 1000001), (1000002, 1000002), (1000004, 22)] rfl ⟨SV.le_refl _, SV.le_refl _, trivial⟩ ⟨Res.le_refl _, Res.le_refl _, Res.le_refl _, Res.le_refl _, trivial⟩ rfl rfl ?_; rintro x rout ⟨rfl, rfl⟩; refine ⟨rfl, ?_⟩; conv => whnf)
    | (refine LoopX.run hT (C := []) 6 rfl [0, 4, 5, 32, 33] [1000000, 1000001, 1000002] (fun _ _ h => h) (fun _ h => h) ?_; conv => whnf)
    | (refine LoopX.run hT (C := []) 7 rfl [0, 4, 5, 7] [1000000, 1000001, 1000002] (fun _ _ h => h) (fun _ h => h) ?_; conv => whnf)
    | (refine LoopX.run hT (C := []) 22 rfl [0, 4, 5, 7, 8, 9, 10, 11, 50, 51, 52] [1000000, 1000001, 1000002] (fun _ _ h => h) (fun _ h => h) ?_; conv => whnf)
    | (refine LoopX.run hT (C := []) 40 rfl [0, 4, 5, 7, 8, 9, 10, 14, 15] [1000000, 1000001, 1000002] (fun _ _ h => h) (fun _ h => h) ?_; conv => whnf)
    | (refine LoopX.run hT (C := []) 60 rfl [0, 4, 5, 7, 9, 14, 15] [1000000, 1000001, 1000002] (fun _ _ h => h) (fun _ h => h) ?_; conv => whnf)
    | (refine br_intro (fun hb => ?_) (fun hb => ?_) <;> (try simp only [decide_eq_true_eq, decide_eq_false_iff_not, Bool.not_eq_true', Bool.not_eq_false', Bool.and_eq_true, Bool.or_eq_true, beq_iff_eq, not_and, Int.not_le, Int.not_lt, Int.toNat_natCast, beq_eq_false_iff_ne, ne_eq, eq_self, not_true_eq_false, not_false_eq_true] at hb) <;> (conv => whnf))
    | (refine RegX.rule (id := 1) hT rfl [] [(0, []), (1, []), (2, []), (3, []), (5, [0, 1, 2, 3]), (6, [0, 1, 2, 3]), (7, [0, 1, 2, 3]), (8, [0, 1, 2, 3]), (4, [5, 6, 7, 8]), (9, []), (10, []), (11, [])] (by decide +kernel) ?_; conv => whnf)
    | (refine RegX.rule (id := 14) hT rfl [] [(0, []), (1, []), (2, []), (3, []), (4, [3]), (5, []), (6, []), (7, []), (8, []), (9, []), (10, []), (11, []), (12, []), (13, []), (14, [13]), (15, []), (16, []), (17, [13, 14, 15, 16]), (18, [13, 14, 15, 16, 17]), (19, [13, 14, 15, 16]), (20, [13, 14, 15, 16]), (21, []), (22, []), (23, [])] (by decide +kernel) ?_; conv => whnf)
    | (refine RegX.rule (id := 21) hT rfl [] [(0, []), (1, []), (2, []), (3, []), (4, [0, 1, 2, 3]), (5, [0, 1, 2, 3, 4]), (6, [0, 1, 2, 3]), (7, [0, 1, 2, 3]), (8, [0, 1, 2, 3]), (9, []), (10, []), (11, [0, 1, 2, 3, 4, 5, 6, 7, 8, 9, 10]), (12, [])] (by decide +kernel) ?_; conv => whnf)
    | (refine RegX.rule (id := 23) hT rfl [] [(0, []), (1, [0]), (2, [0]), (3, []), (4, [0, 1, 2, 3]), (5, [0, 1, 2, 3]), (6, [4, 5]), (7, [])] (by decide +kernel) ?_; conv => whnf)
    | (refine RegX.rule (id := 31) hT rfl [] [(0, []), (1, []), (2, []), (3, []), (4, [0, 1, 2, 3]), (5, [0, 1, 2, 3, 4]), (6, [0, 1, 2, 3]), (7, [0, 1, 2, 3]), (8, [0, 1, 2, 3]), (9, []), (10, [])] (by decide +kernel) ?_; conv => whnf)
    | omega
    | (refine And.intro ?_ ?_; ((try dsimp only); first | omega | (refine ⟨by omega, by omega, Int.le_trans (Int.mul_le_mul_of_nonneg_right (Int.ofNat_le.2 (Nat.le_of_ble_eq_true (rfl : Nat.ble _ 1024 = true))) (by omega)) (by omega), by omega⟩) | (refine Nat.le_trans (Nat.mul_le_mul_left _ (Nat.le_of_ble_eq_true (rfl : Nat.ble _ 1024 = true))) ?_; omega) | (unfold inI64; omega) | (constructor <;> omega) | (simp only [inI64, List.length_cons, List.length_append, List.length_nil, List.length_set] at *; omega) | decide | (unfold inI64; decide)); conv => whnf)
    | omega | decide | assumption)
  refine .weak _ ?_
  conv => whnf
  exact ⟨.tup [.d (.int .i64 0), .d (.bool true)], _, SV.le_tup ⟨SV.le_int rfl, SV.le_bool rfl, trivial⟩, ⟨rfl, rfl⟩, Res.le_refl _, Res.le_refl _, Res.le_refl _, trivial⟩
-- shift.Plan, of the try
set_option maxHeartbeats 8000000 in
theorem s27t : FSpec Tryz.prog 34 [.d (neds tN), .d (roas tR)] [] (fun y r => y = .tup [.d (movs [⟨[97], [98], 1⟩]), .d (.int .i64 0)] ∧ r = []) := by
  refine spec_of hT (C := []) Tryz.func34 rfl Tryz.call34 rfl rfl rfl ?_
  conv => whnf
  repeat' (first
    | (refine CallX.exact (s113t) rfl rfl ?_; rotate_right; conv => whnf)
    | (refine CallX.of s114t [(20, 24), (15, 1000), (18, 1001), (88, 1002)] rfl ⟨SV.le_refl _, SV.le_refl _, trivial⟩ trivial rfl rfl ?_; rintro x rout ⟨rfl, rfl⟩; refine ⟨rfl, ?_⟩; conv => whnf)
    | (refine CallX.of s115a [(1000000, 24), (1000001, 1000), (1000002, 1001), (1000003, 1002)] rfl ⟨SV.le_refl _, trivial⟩ ⟨Res.le_refl _, Res.le_refl _, Res.le_refl _, Res.le_refl _, trivial⟩ rfl rfl ?_; rintro x rout ⟨rfl, rfl⟩; refine ⟨rfl, ?_⟩; conv => whnf)
    | (refine br_intro (fun hb => ?_) (fun hb => ?_) <;> (try simp only [decide_eq_true_eq, decide_eq_false_iff_not, Bool.not_eq_true', Bool.not_eq_false', Bool.and_eq_true, Bool.or_eq_true, beq_iff_eq, not_and, Int.not_le, Int.not_lt, Int.toNat_natCast, beq_eq_false_iff_ne, ne_eq, eq_self, not_true_eq_false, not_false_eq_true] at hb) <;> (conv => whnf))
    | (refine RegX.rule (id := 13) hT rfl [] [(0, []), (1, [0]), (2, [0]), (3, [0]), (4, [0]), (5, [0, 1, 2, 3, 4]), (6, [0, 1, 2, 3, 4]), (7, [0]), (8, [0]), (9, [0, 1, 2, 3, 4, 5, 6, 7, 8]), (10, [0, 1, 2, 3, 4, 5, 6, 7, 8]), (11, [0, 1, 2, 3, 4, 5, 6, 7, 8]), (12, [0, 1, 2, 3, 4, 5, 6, 7, 8]), (13, [0, 1, 2, 3, 4, 5, 6, 7, 8, 9, 10, 11, 12]), (14, [0, 1, 2, 3, 4, 5, 6, 7, 8, 9, 10, 11, 12]), (15, [0, 1, 2, 3, 4, 5, 6, 7, 8]), (16, [0, 1, 2, 3, 4, 5, 6, 7, 8]), (17, [0]), (18, [])] (by decide +kernel) ?_; conv => whnf)
    | (refine RegX.rule (id := 19) hT rfl [] [(0, []), (1, [0]), (2, [0, 1]), (3, [0, 1]), (4, [0]), (5, [0]), (6, [0]), (7, [0, 1, 2, 3, 4, 5, 6]), (8, [0, 1, 2, 3, 4, 5, 6, 7]), (9, [0, 1, 2, 3, 4, 5, 6, 7]), (10, [0, 1, 2, 3, 4, 5, 6]), (11, [0, 1, 2, 3, 4, 5, 6]), (12, [0, 1, 2, 3, 4, 5, 6]), (13, [0, 1, 2, 3, 4, 5, 6, 7, 8, 9, 10, 11, 12]), (14, [0]), (15, [0]), (16, []), (17, [])] (by decide +kernel) ?_; conv => whnf)
    | omega
    | (refine And.intro ?_ ?_; ((try dsimp only); first | omega | (refine ⟨by omega, by omega, Int.le_trans (Int.mul_le_mul_of_nonneg_right (Int.ofNat_le.2 (Nat.le_of_ble_eq_true (rfl : Nat.ble _ 1024 = true))) (by omega)) (by omega), by omega⟩) | (refine Nat.le_trans (Nat.mul_le_mul_left _ (Nat.le_of_ble_eq_true (rfl : Nat.ble _ 1024 = true))) ?_; omega) | (unfold inI64; omega) | (constructor <;> omega) | (simp only [inI64, List.length_cons, List.length_append, List.length_nil, List.length_set] at *; omega) | decide | (unfold inI64; decide)); conv => whnf)
    | omega | decide | assumption)
  refine LoopX.freeze 1002 120 4 1 _ rfl ?_
  repeat' (first
    | (refine CallX.of s116t [(1000000, 24), (1000001, 1000), (1000002, 1001), (1000003, 1002), (30, 1100), (16, 1101), (21, 1102)] rfl ⟨SV.le_refl _, SV.le_int rfl, SV.le_int rfl, SV.le_int rfl, SV.le_int rfl, trivial⟩ ⟨Res.le_refl _, Res.le_refl _, Res.le_refl _, Res.le_fro rfl (fun i hi => by (have : i = 0 := by simp at hi; omega); subst this; rfl), trivial⟩ rfl rfl ?_; rintro x rout ⟨rfl, rfl⟩; refine ⟨rfl, ?_⟩; conv => whnf)
    | (refine CallX.of s116t [(1000000, 24), (1000001, 1000), (1000002, 1001), (1000003, 1002), (30, 1200), (16, 1201), (21, 1202)] rfl ⟨SV.le_refl _, SV.le_int rfl, SV.le_int rfl, SV.le_int rfl, SV.le_int rfl, trivial⟩ ⟨Res.le_refl _, Res.le_refl _, Res.le_refl _, Res.le_fro rfl (fun i hi => by (have : i = 0 := by simp at hi; omega); subst this; rfl), trivial⟩ rfl rfl ?_; rintro x rout ⟨rfl, rfl⟩; refine ⟨rfl, ?_⟩; conv => whnf)
    | (refine CallX.of s115b [(1000000, 1100), (1000001, 1101), (1000002, 1102)] rfl ⟨SV.le_refl _, trivial⟩ ⟨Res.le_refl _, Res.le_refl _, Res.le_refl _, trivial⟩ rfl rfl ?_; rintro x rout ⟨rfl, rfl⟩; refine ⟨rfl, ?_⟩; conv => whnf)
    | (refine LoopX.run hT (C := []) 18 rfl [0, 7, 8, 10] [] (fun _ _ h => h) (fun _ h => h) ?_; conv => whnf)
    | (refine LoopX.run hT (C := []) 26 rfl [0, 7, 8, 10, 11, 12, 13] [] (fun _ _ h => h) (fun _ h => h) ?_; conv => whnf)
    | (refine br_intro (fun hb => ?_) (fun hb => ?_) <;> (try simp only [decide_eq_true_eq, decide_eq_false_iff_not, Bool.not_eq_true', Bool.not_eq_false', Bool.and_eq_true, Bool.or_eq_true, beq_iff_eq, not_and, Int.not_le, Int.not_lt, Int.toNat_natCast, beq_eq_false_iff_ne, ne_eq, eq_self, not_true_eq_false, not_false_eq_true] at hb) <;> (conv => whnf))
    | (refine RegX.rule (id := 13) hT rfl [] [(0, []), (1, [0]), (2, [0]), (3, [0]), (4, [0]), (5, [0, 1, 2, 3, 4]), (6, [0, 1, 2, 3, 4]), (7, [0]), (8, [0]), (9, [0, 1, 2, 3, 4, 5, 6, 7, 8]), (10, [0, 1, 2, 3, 4, 5, 6, 7, 8]), (11, [0, 1, 2, 3, 4, 5, 6, 7, 8]), (12, [0, 1, 2, 3, 4, 5, 6, 7, 8]), (13, [0, 1, 2, 3, 4, 5, 6, 7, 8, 9, 10, 11, 12]), (14, [0, 1, 2, 3, 4, 5, 6, 7, 8, 9, 10, 11, 12]), (15, [0, 1, 2, 3, 4, 5, 6, 7, 8]), (16, [0, 1, 2, 3, 4, 5, 6, 7, 8]), (17, [0]), (18, [])] (by decide +kernel) ?_; conv => whnf)
    | (refine RegX.rule (id := 19) hT rfl [] [(0, []), (1, [0]), (2, [0, 1]), (3, [0, 1]), (4, [0]), (5, [0]), (6, [0]), (7, [0, 1, 2, 3, 4, 5, 6]), (8, [0, 1, 2, 3, 4, 5, 6, 7]), (9, [0, 1, 2, 3, 4, 5, 6, 7]), (10, [0, 1, 2, 3, 4, 5, 6]), (11, [0, 1, 2, 3, 4, 5, 6]), (12, [0, 1, 2, 3, 4, 5, 6]), (13, [0, 1, 2, 3, 4, 5, 6, 7, 8, 9, 10, 11, 12]), (14, [0]), (15, [0]), (16, []), (17, [])] (by decide +kernel) ?_; conv => whnf)
    | omega
    | (refine And.intro ?_ ?_; ((try dsimp only); first | omega | (refine ⟨by omega, by omega, Int.le_trans (Int.mul_le_mul_of_nonneg_right (Int.ofNat_le.2 (Nat.le_of_ble_eq_true (rfl : Nat.ble _ 1024 = true))) (by omega)) (by omega), by omega⟩) | (refine Nat.le_trans (Nat.mul_le_mul_left _ (Nat.le_of_ble_eq_true (rfl : Nat.ble _ 1024 = true))) ?_; omega) | (unfold inI64; omega) | (constructor <;> omega) | (simp only [inI64, List.length_cons, List.length_append, List.length_nil, List.length_set] at *; omega) | decide | (unfold inI64; decide)); conv => whnf)
    | omega | decide | assumption)
  refine .freeze _ 106 123 3 _ _ rfl (.weak _ ?_)
  conv => whnf
  exact ⟨.tup [.d (movs [⟨[97], [98], 1⟩]), .d (.int .i64 0)], _, SV.le_tup ⟨SV.le_ro rfl (fun i hi => by (have : i = 0 := by simp at hi; omega); subst this; rfl), SV.le_int rfl, trivial⟩, ⟨rfl, rfl⟩, trivial⟩
theorem mov_eq {a b : Mov} : a = b ↔ a.a = b.a ∧ a.b = b.b ∧ a.many = b.many := by cases a; cases b; simp
instance : DecidableEq Mov := fun _ _ => decidable_of_iff _ mov_eq.symm
-- slices.Equal of moves
-- shifted
end Go.Proofs.YtnchgjpdggembaaGreat
namespace Go.Proofs
open Go.Shelf
def Tryz.laysGrowE_ren : Go.Shelf.Ren := ⟨fun | 4 => 117 | n => n, fun | 22 => 82 | 25 => 86 | 3 => 3 | 4 => 4 | 9 => 9 | 20 => 20 | 0 => 0 | n => n, fun | n => n⟩
theorem Tryz.laysGrowE : Go.Proofs.Lays8.n4 Tryz.prog Tryz.laysGrowE_ren := {
  mixed := by kernel_rfl
  f4 := ⟨Tryz.f117.name, by decide, Tryz.func117.trans (congrArg some (by kernel_rfl))⟩
  t0 := Tryz.underlying0
  a0 := Tryz.isAgg0
  z0 := Tryz.sizeOf0
  v0 := Tryz.zeroValue0
  t3 := Tryz.underlying3
  a3 := Tryz.isAgg3
  z3 := Tryz.sizeOf3
  v3 := Tryz.zeroValue3
  t4 := Tryz.underlying4
  a4 := Tryz.isAgg4
  z4 := Tryz.sizeOf4
  v4 := Tryz.zeroValue4
  t9 := Tryz.underlying9
  a9 := Tryz.isAgg9
  z9 := Tryz.sizeOf9
  v9 := Tryz.zeroValue9
  t20 := Tryz.underlying20
  a20 := Tryz.isAgg20
  z20 := Tryz.sizeOf20
  v20 := Tryz.zeroValue20
  t22 := Tryz.underlying82
  a22 := Tryz.isAgg82
  z22 := Tryz.sizeOf82
  v22 := Tryz.zeroValue82 }
end Go.Proofs
set_option maxRecDepth 20000
namespace Go.Proofs.YtnchgjpdggembaaGreat
open Go Go.Eng Go.RowKit
structure Ent where
  tm : Int
  desk : List UInt8
  no : Int
  words : List UInt8
def enF : Ent → List DV := fun x => [.int .i64 x.tm, .str x.desk, .int .i64 x.no, .str x.words]
def en0 : Ent := ⟨0, [], 0, []⟩
abbrev ents (l : List Ent) : DV := seqD 4 enF en0 l
-- slices.Grow of entries, from nil
theorem sGrowE (n : Nat) (hn : n ≤ 2^20) : FSpec Tryz.prog 117 [.d .nilsl, .d (.int .i64 n)] [] (fun y r => y = .buf 1000001 ∧ r = [(1000001, .buf 86 4 0 fun _ => [])]) := by
  refine FSpec.ofRow (by decide) Tryz.call117 (fun G β w vs _ hl hd => ?_)
  match vs, hl with
  | [u, v], _ =>
    have hu := hd 0 _ _ rfl rfl
    have hv := hd 1 _ _ rfl rfl
    cases hu with | d _ _ hu => cases hu with | nilsl =>
    cases hv with | d _ _ hv => cases hv with | int _ _ =>
    by_cases h0 : n = 0
    · subst h0
      refine (Go.Proofs.Any8.slices_Grow_room Go.Proofs.Tryz.laysGrowE none 0 0 0 w (by decide) (by decide) (by decide) (by decide)).mono ?_
      rintro e w' ⟨rfl, rfl⟩
      exact ⟨Below.refl _ _, _, rfl, .inl rfl⟩
    · obtain ⟨_, inf, hi, hsz, hby, hz⟩ := hT.get (t := 86) (i := (T 86).get rfl) rfl
      have hg1 := grownCap_ge w (0 + n) 0 86
      have hg2 := grownCap_le_maxLen w (0 + n) 0 86 (by simp only [maxLen]; omega)
      refine (Go.Proofs.Any8.slices_Grow_grow Go.Proofs.Tryz.laysGrowE inf _ hi hz (by rw [hsz]; decide) none 0 0 n [] w (Nat.le_refl _) (by omega) (by rw [hby]; show (0 + n) * 48 ≤ _; omega) (by omega) (by simp) (fun _ => rfl) (fun a h => by cases h)).mono ?_
      rintro e w' ⟨rfl, rfl⟩
      refine ⟨⟨rfl, rfl, rfl, ?_, fun b hb => ?_⟩, _, rfl, .inr ⟨_, _, _, rfl, Nat.le_refl _, Array.getElem?_push_size, hg2, ?_⟩⟩
      · show w.heap.size ≤ (w.heap.push _).size
        rw [Array.size_push]; omega
      · show (w.heap.push _)[b]? = w.heap[b]?
        rw [Array.getElem?_push]; exact if_neg (by omega)
      · rw [Array.size_append, Array.size_append, size_zeroCells, size_zeroCells]
        show 0 + (0 + n - 0) * 4 + (grownCap w (0 + n) 0 86 - (0 + n)) * 4 = grownCap w (0 + n) 0 86 * 4
        omega
end Go.Proofs.YtnchgjpdggembaaGreat
set_option maxRecDepth 20000
namespace Go.Proofs.YtnchgjpdggembaaGreat
open Go Go.Eng
def esF : List Ent → List DV := fun l => [ents l]
abbrev entss (l : List (List Ent)) : DV := seqD 1 esF [] l
def lensE (l : List (List Ent)) : Nat := (l.map List.length).sum
theorem lensE_take {l : List (List Ent)} {i : Nat} (h : i < l.length) : lensE (l.take (i + 1)) = lensE (l.take i) + (l.getD i []).length := by
  unfold lensE; rw [take_snocD (d := []) h]; simp
theorem lensE_le {l : List (List Ent)} {i : Nat} : lensE (l.take i) ≤ lensE l := by
  have h := congrArg lensE (List.take_append_drop i l)
  have h2 : lensE (l.take i ++ l.drop i) = lensE (l.take i) + lensE (l.drop i) := by unfold lensE; rw [List.map_append, List.sum_append]
  omega
theorem flat_lenE (l : List (List Ent)) : l.flatten.length = lensE l := by
  unfold lensE; rw [List.length_flatten]
-- slices.Concat of entries
theorem sConcatE (l : List (List Ent)) (hl : l.length ≤ 2^20) (hn : lensE l ≤ 2^20) :
    FSpec Tryz.prog 70 [.d (entss l)] [] (fun y r => y = .buf 6 ∧ r = [(6, seqB 86 4 enF en0 l.flatten)]) := by
  refine spec_of hT (C := []) Tryz.func70 rfl Tryz.call70 rfl rfl rfl ?_
  conv => whnf
  refine LoopX.rule hT (C := []) (ι := Nat) (fun i => i ≤ l.length) (fun i => mkSt [(0, .d (entss l)), (3, .d (.int .i64 (lensE (l.take i)))), (9, .d (entss l)), (10, .d (.int .i64 l.length)), (11, .d (.int .i64 i))] []) (fun i => l.length - i) 0 (by omega) (by (refine Entails.mk' [] rfl rfl ?_ ?_ <;> repeat' (first | exact True.intro | exact SV.le_refl _ | exact Res.le_refl _ | exact SV.le_int (by omega) | exact SV.le_any _ | refine And.intro ?_ ?_)); done) ?_
  rintro i p1
  have e1 : (i : Int).toNat = i := Int.toNat_natCast i
  have hls : lensE (l.take i) ≤ lensE l := lensE_le
  have hls2 : i < l.length → lensE (l.take i) + (l.getD (i : Int).toNat []).length ≤ lensE l := fun h => by rw [e1, ← lensE_take h]; exact lensE_le
  conv => whnf
  repeat' (first
    | (refine br_intro (fun hb => ?_) (fun hb => ?_) <;> (try simp only [decide_eq_true_eq, decide_eq_false_iff_not, Bool.not_eq_true', Bool.not_eq_false', Bool.and_eq_true, Bool.or_eq_true, beq_iff_eq, not_and, Int.not_le, Int.not_lt, Int.toNat_natCast, beq_eq_false_iff_ne, ne_eq, eq_self, not_true_eq_false, not_false_eq_true] at hb) <;> (conv => whnf))
    | omega
    | (refine And.intro ?_ ?_; ((try dsimp only); first | omega | (refine ⟨by omega, by omega, Int.le_trans (Int.mul_le_mul_of_nonneg_right (Int.ofNat_le.2 (Nat.le_of_ble_eq_true (rfl : Nat.ble _ 1024 = true))) (by omega)) (by omega), by omega⟩) | (refine Nat.le_trans (Nat.mul_le_mul_left _ (Nat.le_of_ble_eq_true (rfl : Nat.ble _ 1024 = true))) ?_; omega) | (unfold inI64; omega) | (constructor <;> omega) | (simp only [inI64, List.length_cons, List.length_append, List.length_nil, List.length_set] at *; omega) | decide | (unfold inI64; decide)); conv => whnf)
    | omega | decide | assumption)
  · refine ⟨i + 1, by omega, by omega, Entails.mk' [] rfl rfl ⟨SV.le_refl _, SV.le_int ?_, SV.le_refl _, SV.le_refl _, SV.le_refl _, trivial⟩ trivial⟩
    rw [lensE_take (by omega), e1]; omega
  have hi : i = l.length := by omega
  subst hi
  rw [List.take_length] at *
  refine CallX.of (sGrowE (lensE l) hn) [(1000001, 24)] rfl ⟨SV.le_refl _, SV.le_refl _, trivial⟩ trivial rfl rfl ?_
  rintro x rout ⟨rfl, rfl⟩
  refine ⟨rfl, ?_⟩
  conv => whnf
  repeat' (first
    | (refine br_intro (fun hb => ?_) (fun hb => ?_) <;> (try simp only [decide_eq_true_eq, decide_eq_false_iff_not, Bool.not_eq_true', Bool.not_eq_false', Bool.and_eq_true, Bool.or_eq_true, beq_iff_eq, not_and, Int.not_le, Int.not_lt, Int.toNat_natCast, beq_eq_false_iff_ne, ne_eq, eq_self, not_true_eq_false, not_false_eq_true] at hb) <;> (conv => whnf))
    | omega
    | (refine And.intro ?_ ?_; ((try dsimp only); first | omega | (refine ⟨by omega, by omega, Int.le_trans (Int.mul_le_mul_of_nonneg_right (Int.ofNat_le.2 (Nat.le_of_ble_eq_true (rfl : Nat.ble _ 1024 = true))) (by omega)) (by omega), by omega⟩) | (refine Nat.le_trans (Nat.mul_le_mul_left _ (Nat.le_of_ble_eq_true (rfl : Nat.ble _ 1024 = true))) ?_; omega) | (unfold inI64; omega) | (constructor <;> omega) | (simp only [inI64, List.length_cons, List.length_append, List.length_nil, List.length_set] at *; omega) | decide | (unfold inI64; decide)); conv => whnf)
    | omega | decide | assumption)
  refine LoopX.rule hT (C := []) (ι := Nat) (fun i => i ≤ l.length) (fun i => mkSt [(6, .buf 6), (25, .d (entss l)), (26, .d (.int .i64 l.length)), (27, .d (.int .i64 i))] [(6, seqB 86 4 enF en0 (l.take i).flatten)]) (fun i => l.length - i) 0 (by omega) ?_ ?_
  · exact Entails.mk' [(6, 24)] rfl rfl ⟨SV.le_refl _, SV.le_refl _, SV.le_refl _, SV.le_refl _, trivial⟩ ⟨Res.le_buf rfl (fun i hi => absurd hi (by omega)), trivial⟩
  rintro i p1
  have e1 : (i : Int).toNat = i := Int.toNat_natCast i
  have hls : lensE (l.take i) ≤ lensE l := lensE_le
  have hf := flat_lenE (l.take i)
  have hls2 : (i : Int) < l.length → (l.take i).flatten.length + (l.getD (i : Int).toNat []).length ≤ 2^20 := fun h => by rw [e1, hf, ← lensE_take (by omega)]; exact Nat.le_trans lensE_le hn
  conv => whnf
  repeat' (first
    | (refine br_intro (fun hb => ?_) (fun hb => ?_) <;> (try simp only [decide_eq_true_eq, decide_eq_false_iff_not, Bool.not_eq_true', Bool.not_eq_false', Bool.and_eq_true, Bool.or_eq_true, beq_iff_eq, not_and, Int.not_le, Int.not_lt, Int.toNat_natCast, beq_eq_false_iff_ne, ne_eq, eq_self, not_true_eq_false, not_false_eq_true] at hb) <;> (conv => whnf))
    | omega
    | (refine And.intro ?_ ?_; ((try dsimp only); first | omega | (refine ⟨by omega, by omega, Int.le_trans (Int.mul_le_mul_of_nonneg_right (Int.ofNat_le.2 (Nat.le_of_ble_eq_true (rfl : Nat.ble _ 1024 = true))) (by omega)) (by omega), by omega⟩) | (refine Nat.le_trans (Nat.mul_le_mul_left _ (Nat.le_of_ble_eq_true (rfl : Nat.ble _ 1024 = true))) ?_; omega) | (unfold inI64; omega) | (constructor <;> omega) | (simp only [inI64, List.length_cons, List.length_append, List.length_nil, List.length_set] at *; omega) | decide | (unfold inI64; decide)); conv => whnf)
    | omega | decide | assumption)
  · have e2 : (l.take (i + 1)).flatten = (l.take i).flatten ++ l.getD (i : Int).toNat [] := by rw [take_snocD (d := []) (by omega), e1]; simp
    refine ⟨i + 1, by omega, by omega, Entails.mk' [(6, 33)] rfl rfl ⟨SV.le_refl _, SV.le_refl _, SV.le_refl _, SV.le_refl _, trivial⟩ ⟨?_, trivial⟩⟩
    rw [e2]; exact Res.le_appF
  · have hi : i = l.length := by omega
    subst hi
    refine .ret _ ?_
    conv => whnf
    refine ⟨_, ⟨rfl, rfl⟩, ?_, trivial⟩
    rw [List.take_length]; exact Res.le_refl _
def e1 : Ent := ⟨1, [100], 1, [120]⟩
theorem sPrinted1 : FSpec Tryz.prog 116 [.d (.str [120])] [] (fun x r => x = .d (.bool true) ∧ r = []) := by
  refine spec_of hT (C := []) Tryz.func116 rfl Tryz.call116 rfl rfl rfl ?_
  conv => whnf
  repeat' (first
    | (refine LoopX.run hT (C := []) 4 rfl [0, 5, 6] [] (fun _ _ h => h) (fun _ h => h) ?_; conv => whnf)
    | (refine br_intro (fun hb => ?_) (fun hb => ?_) <;> (try simp only [decide_eq_true_eq, decide_eq_false_iff_not, Bool.not_eq_true', Bool.not_eq_false', Bool.and_eq_true, Bool.or_eq_true, beq_iff_eq, not_and, Int.not_le, Int.not_lt, Int.toNat_natCast, beq_eq_false_iff_ne, ne_eq, eq_self, not_true_eq_false, not_false_eq_true] at hb) <;> (conv => whnf))
    | omega
    | (refine And.intro ?_ ?_; ((try dsimp only); first | omega | (refine ⟨by omega, by omega, Int.le_trans (Int.mul_le_mul_of_nonneg_right (Int.ofNat_le.2 (Nat.le_of_ble_eq_true (rfl : Nat.ble _ 1024 = true))) (by omega)) (by omega), by omega⟩) | (refine Nat.le_trans (Nat.mul_le_mul_left _ (Nat.le_of_ble_eq_true (rfl : Nat.ble _ 1024 = true))) ?_; omega) | (unfold inI64; omega) | (constructor <;> omega) | (simp only [inI64, List.length_cons, List.length_append, List.length_nil, List.length_set] at *; omega) | decide | (unfold inI64; decide)); conv => whnf)
    | omega | decide | assumption)
  refine .ret _ ?_
  conv => whnf
  refine ⟨[], ⟨?_, rfl⟩, trivial⟩
  conv => lhs; whnf
-- desk.Check, of one entry
set_option maxHeartbeats 4000000 in
theorem sDChk1 : FSpec Tryz.prog 69 [.d (ents [e1])] [] (fun x r => x = .d (.int .i64 0) ∧ r = []) := by
  have h108 := s108 [100] (by simp)
  rw [show isKeyB [100] = true from by decide] at h108
  refine spec_of hT (C := []) Tryz.func69 rfl Tryz.call69 rfl rfl rfl ?_
  conv => whnf
  repeat' (first
    | (refine LoopX.run hT (C := []) 10 rfl [0, 3, 11, 12, 13] [] (fun _ _ h => h) (fun _ h => h) ?_; conv => whnf)
    | (refine CallX.exact (s154 1) rfl rfl ?_; rotate_right; conv => whnf)
    | (refine CallX.exact (h108) rfl rfl ?_; rotate_right; conv => whnf)
    | (refine CallX.exact (s119 1 1 1000000) rfl rfl ?_; rotate_right; conv => whnf)
    | (refine CallX.exact (sPrinted1) rfl rfl ?_; rotate_right; conv => whnf)
    | (refine br_intro (fun hb => ?_) (fun hb => ?_) <;> (try simp only [decide_eq_true_eq, decide_eq_false_iff_not, Bool.not_eq_true', Bool.not_eq_false', Bool.and_eq_true, Bool.or_eq_true, beq_iff_eq, not_and, Int.not_le, Int.not_lt, Int.toNat_natCast, beq_eq_false_iff_ne, ne_eq, eq_self, not_true_eq_false, not_false_eq_true] at hb) <;> (conv => whnf))
    | (refine RegX.rule (id := 16) hT rfl [] [(0, []), (1, []), (2, []), (3, []), (4, [3]), (5, [3]), (6, []), (7, []), (8, [3, 4, 5, 6, 7]), (9, []), (10, []), (11, []), (12, [])] (by decide +kernel) ?_; conv => whnf)
    | omega
    | (refine And.intro ?_ ?_; ((try dsimp only); first | omega | (refine ⟨by omega, by omega, Int.le_trans (Int.mul_le_mul_of_nonneg_right (Int.ofNat_le.2 (Nat.le_of_ble_eq_true (rfl : Nat.ble _ 1024 = true))) (by omega)) (by omega), by omega⟩) | (refine Nat.le_trans (Nat.mul_le_mul_left _ (Nat.le_of_ble_eq_true (rfl : Nat.ble _ 1024 = true))) ?_; omega) | (unfold inI64; omega) | (constructor <;> omega) | (simp only [inI64, List.length_cons, List.length_append, List.length_nil, List.length_set] at *; omega) | decide | (unfold inI64; decide)); conv => whnf)
    | omega | decide | assumption)
  refine .ret _ ?_
  conv => whnf
  refine ⟨[], ⟨?_, rfl⟩, trivial⟩
  conv => lhs; whnf
theorem sDChk0 : FSpec Tryz.prog 69 [.d (ents [])] [] (fun x r => x = .d (.int .i64 0) ∧ r = []) := by
  refine spec_of hT (C := []) Tryz.func69 rfl Tryz.call69 rfl rfl rfl ?_
  conv => whnf
  repeat' (first
    | (refine LoopX.run hT (C := []) 10 rfl [0, 3, 11, 12, 13] [] (fun _ _ h => h) (fun _ h => h) ?_; conv => whnf)
    | (refine br_intro (fun hb => ?_) (fun hb => ?_) <;> (try simp only [decide_eq_true_eq, decide_eq_false_iff_not, Bool.not_eq_true', Bool.not_eq_false', Bool.and_eq_true, Bool.or_eq_true, beq_iff_eq, not_and, Int.not_le, Int.not_lt, Int.toNat_natCast, beq_eq_false_iff_ne, ne_eq, eq_self, not_true_eq_false, not_false_eq_true] at hb) <;> (conv => whnf))
    | (refine RegX.rule (id := 16) hT rfl [] [(0, []), (1, []), (2, []), (3, []), (4, [3]), (5, [3]), (6, []), (7, []), (8, [3, 4, 5, 6, 7]), (9, []), (10, []), (11, []), (12, [])] (by decide +kernel) ?_; conv => whnf)
    | omega
    | (refine And.intro ?_ ?_; ((try dsimp only); first | omega | (refine ⟨by omega, by omega, Int.le_trans (Int.mul_le_mul_of_nonneg_right (Int.ofNat_le.2 (Nat.le_of_ble_eq_true (rfl : Nat.ble _ 1024 = true))) (by omega)) (by omega), by omega⟩) | (refine Nat.le_trans (Nat.mul_le_mul_left _ (Nat.le_of_ble_eq_true (rfl : Nat.ble _ 1024 = true))) ?_; omega) | (unfold inI64; omega) | (constructor <;> omega) | (simp only [inI64, List.length_cons, List.length_append, List.length_nil, List.length_set] at *; omega) | decide | (unfold inI64; decide)); conv => whnf)
    | omega | decide | assumption)
  refine .ret _ ?_
  conv => whnf
  refine ⟨[], ⟨?_, rfl⟩, trivial⟩
  conv => lhs; whnf
abbrev enB (l : List Ent) : Res := seqB 86 4 enF en0 l
theorem sIns1 : FSpec Tryz.prog 133 [.buf 1000001, .d (.int .i64 0), .d (.int .i64 1), .fn 72 []] [(1000001, enB [e1])] (fun y r => y = .tup [] ∧ r = [(1000001, enB [e1])]) := by
  refine spec_of hT (C := []) Tryz.func133 rfl Tryz.call133 rfl rfl rfl ?_
  conv => whnf
  repeat' (first
    | (refine LoopX.run hT (C := []) 2 rfl [0, 1, 2, 3, 8] [1000001] (fun _ _ h => h) (fun _ h => h) ?_; conv => whnf)
    | (refine LoopX.run hT (C := []) 8 rfl [0, 1, 2, 3, 8, 9] [1000001] (fun _ _ h => h) (fun _ h => h) ?_; conv => whnf)
    | (refine br_intro (fun hb => ?_) (fun hb => ?_) <;> (try simp only [decide_eq_true_eq, decide_eq_false_iff_not, Bool.not_eq_true', Bool.not_eq_false', Bool.and_eq_true, Bool.or_eq_true, beq_iff_eq, not_and, Int.not_le, Int.not_lt, Int.toNat_natCast, beq_eq_false_iff_ne, ne_eq, eq_self, not_true_eq_false, not_false_eq_true] at hb) <;> (conv => whnf))
    | (refine RegX.rule (id := 4) hT rfl [] [(0, []), (1, [0]), (2, []), (3, []), (4, []), (5, [4]), (6, [4, 5]), (7, [4]), (8, [4]), (9, [4, 5, 6, 7, 8]), (10, [4, 5, 6, 7, 8, 9]), (11, [4, 5, 6, 7, 8, 9]), (12, [4, 5, 6, 7, 8]), (13, [4, 5, 6, 7, 8]), (14, []), (15, []), (16, [])] (by decide +kernel) ?_; conv => whnf)
    | (refine RegX.rule (id := 6) hT rfl [] [(0, []), (1, [0]), (2, [0, 1]), (3, [0, 1, 2]), (4, [0, 1, 2]), (5, [0, 1, 2, 3, 4]), (6, [0, 1, 2, 3, 4, 5]), (7, [0, 1, 2, 3, 4, 5]), (8, [0, 1, 2, 3, 4]), (9, [0, 1, 2, 3, 4]), (10, [0, 1, 2, 3, 4, 5, 6, 7, 8, 9]), (11, [0, 1, 2, 3, 4, 5, 6, 7, 8, 9, 10]), (12, [0, 1, 2, 3, 4, 5, 6, 7, 8, 9]), (13, [0, 1, 2, 3, 4, 5, 6, 7, 8, 9]), (14, [2, 3, 4]), (15, [2, 3, 4]), (16, []), (17, [])] (by decide +kernel) ?_; conv => whnf)
    | omega
    | (refine And.intro ?_ ?_; ((try dsimp only); first | omega | (refine ⟨by omega, by omega, Int.le_trans (Int.mul_le_mul_of_nonneg_right (Int.ofNat_le.2 (Nat.le_of_ble_eq_true (rfl : Nat.ble _ 1024 = true))) (by omega)) (by omega), by omega⟩) | (refine Nat.le_trans (Nat.mul_le_mul_left _ (Nat.le_of_ble_eq_true (rfl : Nat.ble _ 1024 = true))) ?_; omega) | (unfold inI64; omega) | (constructor <;> omega) | (simp only [inI64, List.length_cons, List.length_append, List.length_nil, List.length_set] at *; omega) | decide | (unfold inI64; decide)); conv => whnf)
    | omega | decide | assumption)
  refine .ret _ ?_
  conv => whnf
  exact ⟨_, ⟨rfl, rfl⟩, Res.le_refl _, trivial⟩
theorem sStb1 : FSpec Tryz.prog 118 [.buf 1000001, .d (.int .i64 1), .fn 72 []] [(1000001, enB [e1])] (fun y r => y = .tup [] ∧ r = [(1000001, enB [e1])]) := by
  refine spec_of hT (C := []) Tryz.func118 rfl Tryz.call118 rfl rfl rfl ?_
  conv => whnf
  repeat' (first
    | (refine LoopX.run hT (C := []) 4 rfl [0, 1, 2, 6, 7, 8] [1000001] (fun _ _ h => h) (fun _ h => h) ?_; conv => whnf)
    | (refine LoopX.run hT (C := []) 14 rfl [0, 1, 2, 6] [1000001] (fun _ _ h => h) (fun _ h => h) ?_; conv => whnf)
    | (refine LoopX.run hT (C := []) 18 rfl [0, 1, 2, 6, 7, 8] [1000001] (fun _ _ h => h) (fun _ h => h) ?_; conv => whnf)
    | (refine CallX.of sIns1 [(1000001, 1000001)] rfl ⟨SV.le_refl _, SV.le_refl _, SV.le_refl _, SV.le_refl _, trivial⟩ ⟨Res.le_refl _, trivial⟩ rfl rfl ?_; rintro x rout ⟨rfl, rfl⟩; refine ⟨rfl, ?_⟩; conv => whnf)
    | (refine br_intro (fun hb => ?_) (fun hb => ?_) <;> (try simp only [decide_eq_true_eq, decide_eq_false_iff_not, Bool.not_eq_true', Bool.not_eq_false', Bool.and_eq_true, Bool.or_eq_true, beq_iff_eq, not_and, Int.not_le, Int.not_lt, Int.toNat_natCast, beq_eq_false_iff_ne, ne_eq, eq_self, not_true_eq_false, not_false_eq_true] at hb) <;> (conv => whnf))
    | omega
    | (refine And.intro ?_ ?_; ((try dsimp only); first | omega | (refine ⟨by omega, by omega, Int.le_trans (Int.mul_le_mul_of_nonneg_right (Int.ofNat_le.2 (Nat.le_of_ble_eq_true (rfl : Nat.ble _ 1024 = true))) (by omega)) (by omega), by omega⟩) | (refine Nat.le_trans (Nat.mul_le_mul_left _ (Nat.le_of_ble_eq_true (rfl : Nat.ble _ 1024 = true))) ?_; omega) | (unfold inI64; omega) | (constructor <;> omega) | (simp only [inI64, List.length_cons, List.length_append, List.length_nil, List.length_set] at *; omega) | decide | (unfold inI64; decide)); conv => whnf)
    | omega | decide | assumption)
  refine .ret _ ?_
  conv => whnf
  exact ⟨_, ⟨rfl, rfl⟩, Res.le_refl _, trivial⟩
theorem sSrt1 : FSpec Tryz.prog 71 [.buf 1000001, .fn 72 []] [(1000001, enB [e1])] (fun y r => y = .tup [] ∧ r = [(1000001, enB [e1])]) := by
  refine spec_of hT (C := []) Tryz.func71 rfl Tryz.call71 rfl rfl rfl ?_
  conv => whnf
  repeat' (first
    | (refine CallX.of sStb1 [(1000001, 1000001)] rfl ⟨SV.le_refl _, SV.le_refl _, SV.le_refl _, trivial⟩ ⟨Res.le_refl _, trivial⟩ rfl rfl ?_; rintro x rout ⟨rfl, rfl⟩; refine ⟨rfl, ?_⟩; conv => whnf)
    | (refine br_intro (fun hb => ?_) (fun hb => ?_) <;> (try simp only [decide_eq_true_eq, decide_eq_false_iff_not, Bool.not_eq_true', Bool.not_eq_false', Bool.and_eq_true, Bool.or_eq_true, beq_iff_eq, not_and, Int.not_le, Int.not_lt, Int.toNat_natCast, beq_eq_false_iff_ne, ne_eq, eq_self, not_true_eq_false, not_false_eq_true] at hb) <;> (conv => whnf))
    | omega
    | (refine And.intro ?_ ?_; ((try dsimp only); first | omega | (refine ⟨by omega, by omega, Int.le_trans (Int.mul_le_mul_of_nonneg_right (Int.ofNat_le.2 (Nat.le_of_ble_eq_true (rfl : Nat.ble _ 1024 = true))) (by omega)) (by omega), by omega⟩) | (refine Nat.le_trans (Nat.mul_le_mul_left _ (Nat.le_of_ble_eq_true (rfl : Nat.ble _ 1024 = true))) ?_; omega) | (unfold inI64; omega) | (constructor <;> omega) | (simp only [inI64, List.length_cons, List.length_append, List.length_nil, List.length_set] at *; omega) | decide | (unfold inI64; decide)); conv => whnf)
    | omega | decide | assumption)
  refine .ret _ ?_
  conv => whnf
  exact ⟨_, ⟨rfl, rfl⟩, Res.le_refl _, trivial⟩
theorem sCmp1 : FSpec Tryz.prog 76 [.buf 1000001] [(1000001, enB [e1])] (fun y r => y = .buf 1000001 ∧ r = [(1000001, enB [e1])]) := by
  refine spec_of hT (C := []) Tryz.func76 rfl Tryz.call76 rfl rfl rfl ?_
  conv => whnf
  repeat' (first
    | (refine br_intro (fun hb => ?_) (fun hb => ?_) <;> (try simp only [decide_eq_true_eq, decide_eq_false_iff_not, Bool.not_eq_true', Bool.not_eq_false', Bool.and_eq_true, Bool.or_eq_true, beq_iff_eq, not_and, Int.not_le, Int.not_lt, Int.toNat_natCast, beq_eq_false_iff_ne, ne_eq, eq_self, not_true_eq_false, not_false_eq_true] at hb) <;> (conv => whnf))
    | (refine RegX.rule (id := 6) hT rfl [] [(0, []), (1, [0]), (2, []), (3, []), (4, [0, 1, 2, 3]), (5, [0, 1, 2, 3, 4]), (6, [0, 1, 2, 3, 4]), (7, [0, 1, 2, 3]), (8, [0, 1, 2, 3]), (9, [])] (by decide +kernel) ?_; conv => whnf)
    | (refine RegX.rule (id := 11) hT rfl [] [(0, []), (1, [0]), (2, []), (3, []), (4, [0, 1, 2, 3]), (5, [0, 1, 2, 3, 4]), (6, [0, 1, 2, 3, 4]), (7, [0, 1, 2, 3]), (8, [0, 1, 2, 3]), (9, [])] (by decide +kernel) ?_; conv => whnf)
    | omega
    | (refine And.intro ?_ ?_; ((try dsimp only); first | omega | (refine ⟨by omega, by omega, Int.le_trans (Int.mul_le_mul_of_nonneg_right (Int.ofNat_le.2 (Nat.le_of_ble_eq_true (rfl : Nat.ble _ 1024 = true))) (by omega)) (by omega), by omega⟩) | (refine Nat.le_trans (Nat.mul_le_mul_left _ (Nat.le_of_ble_eq_true (rfl : Nat.ble _ 1024 = true))) ?_; omega) | (unfold inI64; omega) | (constructor <;> omega) | (simp only [inI64, List.length_cons, List.length_append, List.length_nil, List.length_set] at *; omega) | decide | (unfold inI64; decide)); conv => whnf)
    | omega | decide | assumption)
  refine .ret _ ?_
  conv => whnf
  exact ⟨_, ⟨rfl, rfl⟩, Res.le_refl _, trivial⟩
-- desk.Merge, of the try
set_option maxHeartbeats 4000000 in
theorem sMerge1 : FSpec Tryz.prog 35 [.d (ents [e1]), .d (ents [])] [] (fun y r => y = .tup [.d (ents [e1]), .d (.int .i64 0)] ∧ r = []) := by
  have h105 := s105 [0, 0] (by simp)
  have hc := sConcatE [[e1], []] (by simp) (by decide)
  refine spec_of hT (C := []) Tryz.func35 rfl Tryz.call35 rfl rfl rfl ?_
  conv => whnf
  repeat' (first
    | (refine CallX.exact (sDChk1) rfl rfl ?_; rotate_right; conv => whnf)
    | (refine CallX.exact (sDChk0) rfl rfl ?_; rotate_right; conv => whnf)
    | (refine CallX.pure h105 ⟨SV.le_lit (by rfl) (by rfl), trivial⟩ rfl ?_; conv => whnf)
    | (refine br_intro (fun hb => ?_) (fun hb => ?_) <;> (try simp only [decide_eq_true_eq, decide_eq_false_iff_not, Bool.not_eq_true', Bool.not_eq_false', Bool.and_eq_true, Bool.or_eq_true, beq_iff_eq, not_and, Int.not_le, Int.not_lt, Int.toNat_natCast, beq_eq_false_iff_ne, ne_eq, eq_self, not_true_eq_false, not_false_eq_true] at hb) <;> (conv => whnf))
    | omega
    | (refine And.intro ?_ ?_; ((try dsimp only); first | omega | (refine ⟨by omega, by omega, Int.le_trans (Int.mul_le_mul_of_nonneg_right (Int.ofNat_le.2 (Nat.le_of_ble_eq_true (rfl : Nat.ble _ 1024 = true))) (by omega)) (by omega), by omega⟩) | (refine Nat.le_trans (Nat.mul_le_mul_left _ (Nat.le_of_ble_eq_true (rfl : Nat.ble _ 1024 = true))) ?_; omega) | (unfold inI64; omega) | (constructor <;> omega) | (simp only [inI64, List.length_cons, List.length_append, List.length_nil, List.length_set] at *; omega) | decide | (unfold inI64; decide)); conv => whnf)
    | omega | decide | assumption)
  refine CallX.of hc [(6, 24)] rfl ⟨SV.le_lit (by rfl) (by rfl), trivial⟩ trivial rfl rfl ?_
  rintro x rout ⟨rfl, rfl⟩
  refine ⟨rfl, ?_⟩
  conv => whnf
  repeat' (first
    | (refine CallX.of sSrt1 [(1000001, 24)] rfl ⟨SV.le_refl _, SV.le_refl _, trivial⟩ ⟨Res.le_refl _, trivial⟩ rfl rfl ?_; rintro x rout ⟨rfl, rfl⟩; refine ⟨rfl, ?_⟩; conv => whnf)
    | (refine CallX.of sCmp1 [(1000001, 24)] rfl ⟨SV.le_refl _, trivial⟩ ⟨Res.le_refl _, trivial⟩ rfl rfl ?_; rintro x rout ⟨rfl, rfl⟩; refine ⟨rfl, ?_⟩; conv => whnf)
    | (refine LoopX.run hT (C := []) 18 rfl [7, 8, 30, 31, 32] [24] (fun _ _ h => h) (fun _ h => h) ?_; conv => whnf)
    | (refine br_intro (fun hb => ?_) (fun hb => ?_) <;> (try simp only [decide_eq_true_eq, decide_eq_false_iff_not, Bool.not_eq_true', Bool.not_eq_false', Bool.and_eq_true, Bool.or_eq_true, beq_iff_eq, not_and, Int.not_le, Int.not_lt, Int.toNat_natCast, beq_eq_false_iff_ne, ne_eq, eq_self, not_true_eq_false, not_false_eq_true] at hb) <;> (conv => whnf))
    | omega
    | (refine And.intro ?_ ?_; ((try dsimp only); first | omega | (refine ⟨by omega, by omega, Int.le_trans (Int.mul_le_mul_of_nonneg_right (Int.ofNat_le.2 (Nat.le_of_ble_eq_true (rfl : Nat.ble _ 1024 = true))) (by omega)) (by omega), by omega⟩) | (refine Nat.le_trans (Nat.mul_le_mul_left _ (Nat.le_of_ble_eq_true (rfl : Nat.ble _ 1024 = true))) ?_; omega) | (unfold inI64; omega) | (constructor <;> omega) | (simp only [inI64, List.length_cons, List.length_append, List.length_nil, List.length_set] at *; omega) | decide | (unfold inI64; decide)); conv => whnf)
    | omega | decide | assumption)
  refine .freeze _ 24 86 4 _ _ rfl (.weak _ ?_)
  conv => whnf
  exact ⟨.tup [.d (ents [e1]), .d (.int .i64 0)], _, SV.le_tup ⟨SV.le_refl _, SV.le_refl _, trivial⟩, ⟨rfl, rfl⟩, trivial⟩
theorem dueE_1 : dueE ⟨0, 0, 1, 0⟩ ⟨[110], [65, 65], 0, 0, 7⟩ 0 = 0 := by decide +kernel
theorem dueV_1 : dueV ⟨0, 0, 1, 0⟩ ⟨[110], [65, 65], 0, 0, 7⟩ 0 = 7 := by decide +kernel
theorem dueW_1 : dueW ⟨0, 0, 1, 0⟩ ⟨[110], [65, 65], 0, 0, 7⟩ 0 = .tup [.d (.int .i64 7), .d (.int .i64 0)] := by unfold dueW; rw [if_pos dueE_1, dueV_1]
-- ready
set_option maxHeartbeats 4000000 in
theorem sReady : FSpec Tryz.prog 11 [] [] (fun x r => x = .d (.bool true) ∧ r = []) := by
  have h35 := s35 3 [1, 1] (by simp)
  rw [splitF_31, if_pos rfl, splitG_31] at h35
  have hd := sDue ⟨0, 0, 1, 0⟩ ⟨[110], [65, 65], 0, 0, 7⟩ 0 ⟨by simp, by simp⟩
  rw [dueW_1] at hd
  refine spec_of hT (C := []) Tryz.func11 rfl Tryz.call11 rfl rfl rfl ?_
  conv => whnf
  repeat' (first
    | (refine CallX.pure h35 ⟨SV.le_refl _, SV.le_lit (by rfl) (by rfl), trivial⟩ rfl ?_; conv => whnf)
    | (refine CallX.exact (hd) rfl rfl ?_; rotate_right; conv => whnf)
    | (refine CallX.pure s27t ⟨SV.le_lit rfl rfl, SV.le_lit rfl rfl, trivial⟩ rfl ?_; conv => whnf)
    | (refine CallX.pure sMerge1 ⟨SV.le_lit rfl rfl, SV.le_nilS, trivial⟩ rfl ?_; conv => whnf)
    | (refine br_intro (fun hb => ?_) (fun hb => ?_) <;> (try simp only [decide_eq_true_eq, decide_eq_false_iff_not, Bool.not_eq_true', Bool.not_eq_false', Bool.and_eq_true, Bool.or_eq_true, beq_iff_eq, not_and, Int.not_le, Int.not_lt, Int.toNat_natCast, beq_eq_false_iff_ne, ne_eq, eq_self, not_true_eq_false, not_false_eq_true] at hb) <;> (conv => whnf))
    | omega
    | (refine And.intro ?_ ?_; ((try dsimp only); first | omega | (refine ⟨by omega, by omega, Int.le_trans (Int.mul_le_mul_of_nonneg_right (Int.ofNat_le.2 (Nat.le_of_ble_eq_true (rfl : Nat.ble _ 1024 = true))) (by omega)) (by omega), by omega⟩) | (refine Nat.le_trans (Nat.mul_le_mul_left _ (Nat.le_of_ble_eq_true (rfl : Nat.ble _ 1024 = true))) ?_; omega) | (unfold inI64; omega) | (constructor <;> omega) | (simp only [inI64, List.length_cons, List.length_append, List.length_nil, List.length_set] at *; omega) | decide | (unfold inI64; decide)); conv => whnf)
    | omega | decide | assumption)
  all_goals first
    | (exfalso; omega)
    | (refine .ret _ ?_
       conv => whnf
       refine ⟨[], ⟨?_, rfl⟩, trivial⟩
       conv => lhs; whnf
       all_goals rfl)
end Go.Proofs.YtnchgjpdggembaaGreat
set_option maxRecDepth 20000
namespace Go.Proofs.YtnchgjpdggembaaGreat
open Go Go.Eng
abbrev icR (i k : Int) : List (Nat × Res) := [(1000001, icelm i), (1000002, icelm k)]
abbrev icL (i k : Int) (l : List Prg) : List (Nat × Res) := [(1000001, icelm i), (1000002, icelm k), (1000003, prB l)]
-- the law's closure: a pairing that has one of the two
theorem sClo (x : Prg) (i k : Int) : FSpec Tryz.prog 15 [.agg ((prF x).map .d), .ptr 1000001 0, .ptr 1000002 0] (icR i k) (fun y r => y = .d (.bool (hasP i k x)) ∧ r = icR i k) := by
  refine spec_of hT (C := []) Tryz.func15 rfl Tryz.call15 rfl rfl rfl ?_
  conv => whnf
  repeat' (first
    | (refine br_intro (fun hb => ?_) (fun hb => ?_) <;> (try simp only [decide_eq_true_eq, decide_eq_false_iff_not, Bool.not_eq_true', Bool.not_eq_false', Bool.and_eq_true, Bool.or_eq_true, beq_iff_eq, not_and, Int.not_le, Int.not_lt, Int.toNat_natCast, beq_eq_false_iff_ne, ne_eq, eq_self, not_true_eq_false, not_false_eq_true] at hb) <;> (conv => whnf))
    | omega
    | (refine And.intro ?_ ?_; ((try dsimp only); first | omega | (refine ⟨by omega, by omega, Int.le_trans (Int.mul_le_mul_of_nonneg_right (Int.ofNat_le.2 (Nat.le_of_ble_eq_true (rfl : Nat.ble _ 1024 = true))) (by omega)) (by omega), by omega⟩) | (refine Nat.le_trans (Nat.mul_le_mul_left _ (Nat.le_of_ble_eq_true (rfl : Nat.ble _ 1024 = true))) ?_; omega) | (unfold inI64; omega) | (constructor <;> omega) | (simp only [inI64, List.length_cons, List.length_append, List.length_nil, List.length_set] at *; omega) | decide | (unfold inI64; decide)); conv => whnf)
    | omega | decide | assumption)
  all_goals
    refine .ret _ ?_
    conv => whnf
    refine ⟨icR i k, ⟨?_, rfl⟩, Res.le_refl _, Res.le_refl _, trivial⟩
    conv => lhs; whnf
    congr 2
    unfold hasP
    grind
-- slices.IndexFunc of pairings
theorem sIxP (l : List Prg) (hl : l.length ≤ 2^40) (i k : Int) :
    FSpec Tryz.prog 37 [.buf 1000003, .fn 15 [.ptr 1000001 0, .ptr 1000002 0]] (icL i k l) (fun y ro => y = .d (.int .i64 (pIx (hasP i k) l)) ∧ ro = icL i k l) := by
  refine spec_of hT (C := []) Tryz.func37 rfl Tryz.call37 rfl rfl rfl ?_
  conv => whnf
  refine LoopX.rule hT (C := []) (ι := Nat) (fun j => j ≤ l.length ∧ ∀ t, t < j → hasP i k (l.getD t pr0) = false) (fun j => mkSt [(0, .buf 1000003), (1, .fn 15 [.ptr 1000001 0, .ptr 1000002 0]), (7, .d (.int .i64 l.length)), (8, .d (.int .i64 j))] (icL i k l)) (fun j => l.length - j) 0 ⟨by omega, by omega⟩ (by (refine Entails.mk' [(1000001, 1000001), (1000002, 1000002), (1000003, 1000003)] rfl rfl ?_ ?_ <;> repeat' (first | exact True.intro | exact SV.le_refl _ | exact Res.le_refl _ | exact SV.le_int (by omega) | exact SV.le_any _ | refine And.intro ?_ ?_)); done) ?_
  rintro j ⟨p1, p2⟩
  have e1 : (j : Int).toNat = j := Int.toNat_natCast j
  conv => whnf
  repeat' (first
    | (refine CallX.of (sClo (l.getD j pr0) i k) [(1000001, 1000001), (1000002, 1000002)] rfl ⟨SV.le_refl _, SV.le_refl _, SV.le_refl _, trivial⟩ ⟨Res.le_refl _, Res.le_refl _, trivial⟩ rfl rfl ?_; rintro x rout ⟨rfl, rfl⟩; refine ⟨rfl, ?_⟩; conv => whnf)
    | (refine br_intro (fun hb => ?_) (fun hb => ?_) <;> (try simp only [decide_eq_true_eq, decide_eq_false_iff_not, Bool.not_eq_true', Bool.not_eq_false', Bool.and_eq_true, Bool.or_eq_true, beq_iff_eq, not_and, Int.not_le, Int.not_lt, Int.toNat_natCast, beq_eq_false_iff_ne, ne_eq, eq_self, not_true_eq_false, not_false_eq_true] at hb) <;> (conv => whnf))
    | omega
    | (refine And.intro ?_ ?_; ((try dsimp only); first | omega | (refine ⟨by omega, by omega, Int.le_trans (Int.mul_le_mul_of_nonneg_right (Int.ofNat_le.2 (Nat.le_of_ble_eq_true (rfl : Nat.ble _ 1024 = true))) (by omega)) (by omega), by omega⟩) | (refine Nat.le_trans (Nat.mul_le_mul_left _ (Nat.le_of_ble_eq_true (rfl : Nat.ble _ 1024 = true))) ?_; omega) | (unfold inI64; omega) | (constructor <;> omega) | (simp only [inI64, List.length_cons, List.length_append, List.length_nil, List.length_set] at *; omega) | decide | (unfold inI64; decide)); conv => whnf)
    | omega | decide | assumption)
  · refine .ret _ ?_
    conv => whnf
    refine ⟨icL i k l, ⟨?_, rfl⟩, Res.le_refl _, Res.le_refl _, Res.le_refl _, trivial⟩
    conv => lhs; whnf
    congr 2
    exact (ixF_hit (by omega) p2 (by simpa using hb)).symm
  · exact ⟨j + 1, ⟨by omega, all_step p2 (by simpa using hb)⟩, by omega, (by (refine Entails.mk' [(1000001, 1000001), (1000002, 1000002), (1000003, 1000003)] rfl rfl ?_ ?_ <;> repeat' (first | exact True.intro | exact SV.le_refl _ | exact Res.le_refl _ | exact SV.le_int (by omega) | exact SV.le_any _ | refine And.intro ?_ ?_)); done)⟩
  · refine .ret _ ?_
    conv => whnf
    refine ⟨icL i k l, ⟨?_, rfl⟩, Res.le_refl _, Res.le_refl _, Res.le_refl _, trivial⟩
    conv => lhs; whnf
    congr 2
    have : j = l.length := by omega
    subst this
    exact (ixF_none p2).symm
-- slices.ContainsFunc of pairings
theorem sHasP (l : List Prg) (hl : l.length ≤ 2^40) (i k : Int) :
    FSpec Tryz.prog 14 [.buf 1000003, .fn 15 [.ptr 1000001 0, .ptr 1000002 0]] (icL i k l) (fun y ro => y = .d (.bool (l.any (hasP i k))) ∧ ro = icL i k l) := by
  refine spec_of hT (C := []) Tryz.func14 rfl Tryz.call14 rfl rfl rfl ?_
  conv => whnf
  repeat' (first
    | (refine CallX.of (sIxP l hl i k) [(1000001, 1000001), (1000002, 1000002), (1000003, 1000003)] rfl ⟨SV.le_refl _, SV.le_refl _, trivial⟩ ⟨Res.le_refl _, Res.le_refl _, Res.le_refl _, trivial⟩ rfl rfl ?_; rintro x rout ⟨rfl, rfl⟩; refine ⟨rfl, ?_⟩; conv => whnf)
    | (refine br_intro (fun hb => ?_) (fun hb => ?_) <;> (try simp only [decide_eq_true_eq, decide_eq_false_iff_not, Bool.not_eq_true', Bool.not_eq_false', Bool.and_eq_true, Bool.or_eq_true, beq_iff_eq, not_and, Int.not_le, Int.not_lt, Int.toNat_natCast, beq_eq_false_iff_ne, ne_eq, eq_self, not_true_eq_false, not_false_eq_true] at hb) <;> (conv => whnf))
    | omega
    | (refine And.intro ?_ ?_; ((try dsimp only); first | omega | (refine ⟨by omega, by omega, Int.le_trans (Int.mul_le_mul_of_nonneg_right (Int.ofNat_le.2 (Nat.le_of_ble_eq_true (rfl : Nat.ble _ 1024 = true))) (by omega)) (by omega), by omega⟩) | (refine Nat.le_trans (Nat.mul_le_mul_left _ (Nat.le_of_ble_eq_true (rfl : Nat.ble _ 1024 = true))) ?_; omega) | (unfold inI64; omega) | (constructor <;> omega) | (simp only [inI64, List.length_cons, List.length_append, List.length_nil, List.length_set] at *; omega) | decide | (unfold inI64; decide)); conv => whnf)
    | omega | decide | assumption)
  refine .ret _ ?_
  conv => whnf
  refine ⟨icL i k l, ⟨?_, rfl⟩, Res.le_refl _, Res.le_refl _, Res.le_refl _, trivial⟩
  conv => lhs; whnf
  rw [← pIx_any]
end Go.Proofs.YtnchgjpdggembaaGreat
set_option maxRecDepth 20000
namespace Go.Proofs.YtnchgjpdggembaaGreat
open Go Go.Eng
-- MatchesAreBest
set_option maxHeartbeats 8000000 in
theorem m3 (n : Nat) (L : Nat → Int) (hn : n ≤ maxLen) (hl : ∀ i, -2^63 ≤ L i ∧ L i < 2^63) : FSpec Tryz.prog 3 [.d (.ro 1 n fun i => [.int .i64 (L i)])] [] (fun x r => x = .d (.bool true) ∧ r = []) := by
  have hL : Rok n L := ⟨hn, hl⟩
  refine spec_of hT (C := []) Tryz.func3 rfl Tryz.call3 rfl rfl rfl ?_
  conv => whnf
  repeat' (first
    | (refine CallX.of (s95 n L hL _ ?_ ?_ ) [(1000000, 25)] rfl ⟨SV.le_refl _, trivial⟩ ⟨Res.le_refl _, trivial⟩ rfl rfl ?_; rotate_right; rintro x rout ⟨⟨p, q1, rfl⟩, ⟨c, c1, c2, rfl⟩⟩; have hp := pnOk_of q1 (by omega); refine ⟨rfl, ?_⟩; conv => whnf)
    | (refine CallX.of (s97 n L hL _ ?_ ?_ ) [(1000000, 25)] rfl ⟨SV.le_refl _, trivial⟩ ⟨Res.le_refl _, trivial⟩ rfl rfl ?_; rotate_right; rintro x rout ⟨⟨z, rfl⟩, ⟨c, c1, c2, rfl⟩⟩; refine ⟨rfl, ?_⟩; conv => whnf)
    | (refine CallX.of (s64 n L hL _ ?_ ?_ _ _ ?_ ?_ ?_ ?_) [(1000000, 25)] rfl ⟨SV.le_refl _, SV.le_refl _, SV.le_refl _, trivial⟩ ⟨Res.le_refl _, trivial⟩ rfl rfl ?_; rotate_right; rintro x rout ⟨⟨u, hu1, hu2, rfl⟩, ⟨c, c1, c2, rfl⟩⟩; refine ⟨rfl, ?_⟩; conv => whnf)
    | (refine CallX.of (s96 n L hL _ ?_ ?_ u ?_ ?_) [(1000000, 25)] rfl ⟨SV.le_refl _, SV.le_refl _, trivial⟩ ⟨Res.le_refl _, trivial⟩ rfl rfl ?_; rotate_right; rintro x rout ⟨⟨m, q2, rfl⟩, ⟨c, c1, c2, rfl⟩⟩; have hm := mkOk_of q2 (by omega); refine ⟨rfl, ?_⟩; conv => whnf)
    | (refine CallX.of (z141 n L hL _ ?_ ?_ m 6 (by omega) 1099511627776 (by omega) (by omega) (allK_le q2 (by omega))) [(1000000, 25)] rfl ⟨SV.le_refl _, SV.le_refl _, trivial⟩ ⟨Res.le_refl _, trivial⟩ rfl rfl ?_; rotate_right; rintro x rout ⟨⟨o, q3, rfl⟩, ⟨c, c1, c2, rfl⟩⟩; have ho := mkOk_of q3 (by omega); refine ⟨rfl, ?_⟩; conv => whnf)
    | (refine br_intro (fun hb => ?_) (fun hb => ?_) <;> (try simp only [decide_eq_true_eq, decide_eq_false_iff_not, Bool.not_eq_true', Bool.not_eq_false', Bool.and_eq_true, Bool.or_eq_true, beq_iff_eq, not_and, Int.not_le, Int.not_lt, Int.toNat_natCast, beq_eq_false_iff_ne, ne_eq, eq_self, not_true_eq_false, not_false_eq_true] at hb) <;> (conv => whnf))
    | (refine RegX.rule (id := 14) hT rfl [] [(0, []), (1, [0]), (2, [0, 1]), (3, [0]), (4, [0]), (5, [0, 1, 2, 3, 4]), (6, [0, 1, 2, 3, 4, 5]), (7, [0, 1, 2, 3, 4]), (8, [0, 1, 2, 3, 4]), (9, []), (10, []), (11, []), (12, [11]), (13, []), (14, []), (15, []), (16, []), (17, []), (18, []), (19, []), (20, [])] (by decide +kernel) ?_; conv => whnf)
    | omega
    | (refine And.intro ?_ ?_; ((try dsimp only); first | omega | (refine ⟨by omega, by omega, Int.le_trans (Int.mul_le_mul_of_nonneg_right (Int.ofNat_le.2 (Nat.le_of_ble_eq_true (rfl : Nat.ble _ 1024 = true))) (by omega)) (by omega), by omega⟩) | (refine Nat.le_trans (Nat.mul_le_mul_left _ (Nat.le_of_ble_eq_true (rfl : Nat.ble _ 1024 = true))) ?_; omega) | (unfold inI64; omega) | (constructor <;> omega) | (simp only [inI64, List.length_cons, List.length_append, List.length_nil, List.length_set] at *; omega) | decide | (unfold inI64; decide)); conv => whnf)
    | omega | decide | assumption)
  have h60 := z60 p z m o hp hm ho
  unfold matchV at h60
  have hm6 : m.length ≤ 6 := by have := q2.1; omega
  have ho8 : o.length ≤ 8 := q3.1
  by_cases hz : twoE p z m o = 0
  · rw [if_pos hz] at h60
    obtain ⟨h1, h2, h3, h4⟩ := twoE_zero hz
    have hrb := rulE_bd h1
    have hma := onPE_mBd h3
    have hmb := onPE_mBd h4
    have hG := mtL_G (r := z) (b := o) (mrks_inc (onPE_bd h3).1)
    have hopt : ∀ l, mtcG z m o 0 l → l.length < (mtL z m o).length ∨ (l.length = (mtL z m o).length ∧ sumP m o (mtL z m o) ≤ sumP m o l) := fun l h => mtL_opt h
    obtain ⟨g1, g2⟩ := mtcG_apE hz hG
    have hml := (mtL_ok z m o).1
    have h50 := z50 p z m o (mtL z m o) hp hm ho (by omega)
    rw [g1, if_pos rfl, g2] at h50
    have h76 := z76 p z m o hp hm ho
    have h78 := z78 p z m o hp hm ho
    unfold chV at h76 h78
    rw [if_pos hz] at h76 h78
    have k1 := new_len (n := o.length) hG.one (fun q hq => by obtain ⟨j, k, rfl, _, w2, w3, w4⟩ := hG.ins q hq; exact ⟨by show (0 : Int) ≤ (k : Int); omega, by show (k : Int) < (o.length : Int); omega⟩)
    have k2 := gone_len (n := m.length) (hG.inc.imp fun h => by omega) (fun q hq => by obtain ⟨j, k, rfl, _, w2, w3, w4⟩ := hG.ins q hq; exact ⟨by show (0 : Int) ≤ (j : Int); omega, by show (j : Int) < (m.length : Int); omega⟩)
    clear hG g1 g2
    generalize numL (newB (mtL z m o)) o.length = l1 at h76 k1
    generalize numL (goneB (mtL z m o)) m.length = l2 at h78 k2
    generalize mtL z m o = M at h60 h50 k1 k2 hopt hml
    generalize sumP m o M = SM at h50 hopt
    repeat' (first
      | (refine CallX.exact (h60) rfl rfl ?_; rotate_right; conv => whnf)
      | (refine CallX.of (sOrd n L hL c (by omega) (by omega) m.length (by omega)) [(1000000, 25), (5, 56)] rfl ⟨SV.le_refl _, SV.le_refl _, trivial⟩ ⟨Res.le_refl _, trivial⟩ rfl rfl ?_; rintro x rout ⟨os, c, hol, hor, c5, c6, rfl, rfl⟩; refine ⟨rfl, ?_⟩; conv => whnf)
      | (refine br_intro (fun hb => ?_) (fun hb => ?_) <;> (try simp only [decide_eq_true_eq, decide_eq_false_iff_not, Bool.not_eq_true', Bool.not_eq_false', Bool.and_eq_true, Bool.or_eq_true, beq_iff_eq, not_and, Int.not_le, Int.not_lt, Int.toNat_natCast, beq_eq_false_iff_ne, ne_eq, eq_self, not_true_eq_false, not_false_eq_true] at hb) <;> (conv => whnf))
      | (refine RegX.rule (id := 14) hT rfl [] [(0, []), (1, [0]), (2, [0, 1]), (3, [0]), (4, [0]), (5, [0, 1, 2, 3, 4]), (6, [0, 1, 2, 3, 4, 5]), (7, [0, 1, 2, 3, 4]), (8, [0, 1, 2, 3, 4]), (9, []), (10, []), (11, []), (12, [11]), (13, []), (14, []), (15, []), (16, []), (17, []), (18, []), (19, []), (20, [])] (by decide +kernel) ?_; conv => whnf)
      | omega
      | (refine And.intro ?_ ?_; ((try dsimp only); first | omega | (refine ⟨by omega, by omega, Int.le_trans (Int.mul_le_mul_of_nonneg_right (Int.ofNat_le.2 (Nat.le_of_ble_eq_true (rfl : Nat.ble _ 1024 = true))) (by omega)) (by omega), by omega⟩) | (refine Nat.le_trans (Nat.mul_le_mul_left _ (Nat.le_of_ble_eq_true (rfl : Nat.ble _ 1024 = true))) ?_; omega) | (unfold inI64; omega) | (constructor <;> omega) | (simp only [inI64, List.length_cons, List.length_append, List.length_nil, List.length_set] at *; omega) | decide | (unfold inI64; decide)); conv => whnf)
      | omega | decide | assumption)
    refine LoopX.rule hT (C := []) (ι := Int × List Prg × Nat) (fun (b, l, i) => (c ≤ b ∧ b ≤ c + 20 * i ∧ (i : Int) ≤ os.length) ∧ oG z m o l)
      (fun (b, l, i) => mkSt [(3, .ptr 3 0), (4, .d (pnls p)), (5, .ptr 5 0), (6, .d (mrks m)), (7, .d (mrks o)), (8, .d (prgs M)), (10, .buf 10), (56, .buf 56), (57, .d (.int .i64 os.length)), (58, .d (.int .i64 i))] [(3, strm n L b), (5, rucell z), (10, prB l), (56, inB os)])
      (fun (_, _, i) => os.length - i) (c, [], 0) ⟨⟨by simp, by simp, by simp⟩, oG_nil⟩ ?_ ?_
    · exact (Entails.nil 10 10 46 2 (rowF prF pr0 []) rfl rfl (by decide)).trans (Entails.mk' [(3, 25), (5, 5), (10, 10), (56, 56)] rfl rfl ⟨SV.le_refl _, SV.le_refl _, SV.le_refl _, SV.le_refl _, SV.le_refl _, SV.le_refl _, SV.le_refl _, SV.le_refl _, SV.le_refl _, SV.le_refl _, trivial⟩ ⟨Res.le_refl _, Res.le_refl _, Res.le_refl _, Res.le_refl _, trivial⟩)
    rintro ⟨b, l, i⟩ ⟨⟨p1, p2, p3⟩, p4⟩
    have p1 : c ≤ b := p1
    have p2 : b ≤ c + 20 * i := p2
    have p3 : (i : Int) ≤ os.length := p3
    have p4 : oG z m o l := p4
    have e1 : (i : Int).toNat = i := Int.toNat_natCast i
    rcases Nat.lt_or_ge i os.length with hi | hi
    · have hI : 0 ≤ os.getD (i : Int).toNat 0 ∧ os.getD (i : Int).toNat 0 < (m.length : Int) := belR_get hor (by omega)
      conv => whnf
      repeat' (first
        | (refine CallX.of (sOrd n L hL b (by omega) (by omega) o.length (by omega)) [(1000000, 3), (5, 65)] rfl ⟨SV.le_refl _, SV.le_refl _, trivial⟩ ⟨Res.le_refl _, trivial⟩ rfl rfl ?_; rintro x rout ⟨ks, c', hkl, hkr, c7, c8, rfl, rfl⟩; refine ⟨rfl, ?_⟩; conv => whnf)
        | (refine br_intro (fun hb => ?_) (fun hb => ?_) <;> (try simp only [decide_eq_true_eq, decide_eq_false_iff_not, Bool.not_eq_true', Bool.not_eq_false', Bool.and_eq_true, Bool.or_eq_true, beq_iff_eq, not_and, Int.not_le, Int.not_lt, Int.toNat_natCast, beq_eq_false_iff_ne, ne_eq, eq_self, not_true_eq_false, not_false_eq_true] at hb) <;> (conv => whnf))
        | (refine RegX.rule (id := 14) hT rfl [] [(0, []), (1, [0]), (2, [0, 1]), (3, [0]), (4, [0]), (5, [0, 1, 2, 3, 4]), (6, [0, 1, 2, 3, 4, 5]), (7, [0, 1, 2, 3, 4]), (8, [0, 1, 2, 3, 4]), (9, []), (10, []), (11, []), (12, [11]), (13, []), (14, []), (15, []), (16, []), (17, []), (18, []), (19, []), (20, [])] (by decide +kernel) ?_; conv => whnf)
        | omega
        | (refine And.intro ?_ ?_; ((try dsimp only); first | omega | (refine ⟨by omega, by omega, Int.le_trans (Int.mul_le_mul_of_nonneg_right (Int.ofNat_le.2 (Nat.le_of_ble_eq_true (rfl : Nat.ble _ 1024 = true))) (by omega)) (by omega), by omega⟩) | (refine Nat.le_trans (Nat.mul_le_mul_left _ (Nat.le_of_ble_eq_true (rfl : Nat.ble _ 1024 = true))) ?_; omega) | (unfold inI64; omega) | (constructor <;> omega) | (simp only [inI64, List.length_cons, List.length_append, List.length_nil, List.length_set] at *; omega) | decide | (unfold inI64; decide)); conv => whnf)
        | omega | decide | assumption)
      · refine LoopX.rule hT (C := []) (ι := Int × List Prg × Nat) (fun (b', l', j) => (c' ≤ b' ∧ b' ≤ c' + j ∧ (j : Int) ≤ ks.length) ∧ oG z m o l')
          (fun (b', l', j) => mkSt [(3, .ptr 3 0), (4, .d (pnls p)), (5, .ptr 5 0), (6, .d (mrks m)), (7, .d (mrks o)), (8, .d (prgs M)), (10, .buf 10), (12, .ptr 12 0), (56, .buf 56), (57, .d (.int .i64 os.length)), (58, .d (.int .i64 i)), (65, .buf 65), (66, .d (.int .i64 ks.length)), (67, .d (.int .i64 j))] [(3, strm n L b'), (5, rucell z), (10, prB l'), (12, icelm (os.getD (i : Int).toNat 0)), (56, inB os), (65, inB ks)])
          (fun (_, _, j) => ks.length - j) (c', l, 0) ⟨⟨by simp, by simp, by simp⟩, p4⟩ ?_ ?_
        · exact Entails.mk' [(3, 3), (5, 5), (10, 10), (12, 12), (56, 56), (65, 65)] rfl rfl ⟨SV.le_refl _, SV.le_refl _, SV.le_refl _, SV.le_refl _, SV.le_refl _, SV.le_refl _, SV.le_refl _, SV.le_refl _, SV.le_refl _, SV.le_refl _, SV.le_refl _, SV.le_refl _, SV.le_refl _, SV.le_refl _, trivial⟩ ⟨Res.le_refl _, Res.le_refl _, Res.le_refl _, Res.le_refl _, Res.le_refl _, Res.le_refl _, trivial⟩
        rintro ⟨b', l', j⟩ ⟨⟨r1, r2, r3⟩, r4⟩
        have r1 : c' ≤ b' := r1
        have r2 : b' ≤ c' + j := r2
        have r3 : (j : Int) ≤ ks.length := r3
        have r4 : oG z m o l' := r4
        have hll := oG_len r4
        have e2 : (j : Int).toNat = j := Int.toNat_natCast j
        rcases Nat.lt_or_ge j ks.length with hj | hj
        · have hK : 0 ≤ ks.getD (j : Int).toNat 0 ∧ ks.getD (j : Int).toNat 0 < (o.length : Int) := belR_get hkr (by omega)
          have hc := z151 z (m.getD (os.getD (i : Int).toNat 0).toNat mk0) (o.getD (ks.getD (j : Int).toNat 0).toNat mk0) hrb (hma.2 _ (by omega)) (hmb.2 _ (by omega))
          have hh := sHasP l' (by omega) (os.getD (i : Int).toNat 0) (ks.getD (j : Int).toNat 0)
          conv => whnf
          repeat' (first
            | (refine CallX.exact (hc) rfl rfl ?_; rotate_right; conv => whnf)
            | (refine CallX.of hh [(1000001, 12), (1000002, 14), (1000003, 10)] rfl ⟨SV.le_refl _, SV.le_refl _, trivial⟩ ⟨Res.le_refl _, Res.le_refl _, Res.le_refl _, trivial⟩ rfl rfl ?_; rintro x rout ⟨rfl, rfl⟩; refine ⟨rfl, ?_⟩; conv => whnf)
            | (refine CallX.of (s84 n L hL _ ?_ ?_ _ ?_) [(1000000, 3)] rfl ⟨SV.le_refl _, SV.le_refl _, trivial⟩ ⟨Res.le_refl _, trivial⟩ rfl rfl ?_; rotate_right; rintro x rout ⟨⟨f, rfl⟩, ⟨c, c1, c2, rfl⟩⟩; refine ⟨rfl, ?_⟩; conv => whnf)
            | (refine br_intro (fun hb => ?_) (fun hb => ?_) <;> (try simp only [decide_eq_true_eq, decide_eq_false_iff_not, Bool.not_eq_true', Bool.not_eq_false', Bool.and_eq_true, Bool.or_eq_true, beq_iff_eq, not_and, Int.not_le, Int.not_lt, Int.toNat_natCast, beq_eq_false_iff_ne, ne_eq, eq_self, not_true_eq_false, not_false_eq_true] at hb) <;> (conv => whnf))
            | (refine RegX.rule (id := 14) hT rfl [] [(0, []), (1, [0]), (2, [0, 1]), (3, [0]), (4, [0]), (5, [0, 1, 2, 3, 4]), (6, [0, 1, 2, 3, 4, 5]), (7, [0, 1, 2, 3, 4]), (8, [0, 1, 2, 3, 4]), (9, []), (10, []), (11, []), (12, [11]), (13, []), (14, []), (15, []), (16, []), (17, []), (18, []), (19, []), (20, [])] (by decide +kernel) ?_; conv => whnf)
            | omega
            | (refine And.intro ?_ ?_; ((try dsimp only); first | omega | (refine ⟨by omega, by omega, Int.le_trans (Int.mul_le_mul_of_nonneg_right (Int.ofNat_le.2 (Nat.le_of_ble_eq_true (rfl : Nat.ble _ 1024 = true))) (by omega)) (by omega), by omega⟩) | (refine Nat.le_trans (Nat.mul_le_mul_left _ (Nat.le_of_ble_eq_true (rfl : Nat.ble _ 1024 = true))) ?_; omega) | (unfold inI64; omega) | (constructor <;> omega) | (simp only [inI64, List.length_cons, List.length_append, List.length_nil, List.length_set] at *; omega) | decide | (unfold inI64; decide)); conv => whnf)
            | omega | decide | assumption)
          all_goals first
            | (exfalso; omega)
            | (refine ⟨(_, l' ++ [⟨os.getD (i : Int).toNat 0, ks.getD (j : Int).toNat 0⟩], j + 1), ⟨⟨?_, ?_, ?_⟩, oG_snoc r4 hI hK ?_ ?_⟩, ?_, Entails.mk' [(3, 3), (5, 5), (10, 97), (12, 12), (56, 56), (65, 65)] rfl rfl ⟨SV.le_refl _, SV.le_refl _, SV.le_refl _, SV.le_refl _, SV.le_refl _, SV.le_refl _, SV.le_refl _, SV.le_refl _, SV.le_refl _, SV.le_refl _, SV.le_refl _, SV.le_refl _, SV.le_refl _, SV.le_refl _, trivial⟩ ⟨Res.le_refl _, Res.le_refl _, Res.le_snocF rfl, Res.le_refl _, Res.le_refl _, Res.le_refl _, trivial⟩⟩
               · omega
               · omega
               · omega
               · simp only [Int.toNat_natCast]; assumption
               · simp only [Int.toNat_natCast]; assumption
               · show ks.length - (j + 1) < ks.length - j; omega)
            | (refine ⟨(_, l', j + 1), ⟨⟨?_, ?_, ?_⟩, r4⟩, ?_, Entails.mk' [(3, 3), (5, 5), (10, 10), (12, 12), (56, 56), (65, 65)] rfl rfl ⟨SV.le_refl _, SV.le_refl _, SV.le_refl _, SV.le_refl _, SV.le_refl _, SV.le_refl _, SV.le_refl _, SV.le_refl _, SV.le_refl _, SV.le_refl _, SV.le_refl _, SV.le_refl _, SV.le_refl _, SV.le_refl _, trivial⟩ ⟨Res.le_refl _, Res.le_refl _, Res.le_refl _, Res.le_refl _, Res.le_refl _, Res.le_refl _, trivial⟩⟩
               · omega
               · omega
               · omega
               · show ks.length - (j + 1) < ks.length - j; omega)
        · conv => whnf
          repeat' (first
            | (refine br_intro (fun hb => ?_) (fun hb => ?_) <;> (try simp only [decide_eq_true_eq, decide_eq_false_iff_not, Bool.not_eq_true', Bool.not_eq_false', Bool.and_eq_true, Bool.or_eq_true, beq_iff_eq, not_and, Int.not_le, Int.not_lt, Int.toNat_natCast, beq_eq_false_iff_ne, ne_eq, eq_self, not_true_eq_false, not_false_eq_true] at hb) <;> (conv => whnf))
            | (refine RegX.rule (id := 14) hT rfl [] [(0, []), (1, [0]), (2, [0, 1]), (3, [0]), (4, [0]), (5, [0, 1, 2, 3, 4]), (6, [0, 1, 2, 3, 4, 5]), (7, [0, 1, 2, 3, 4]), (8, [0, 1, 2, 3, 4]), (9, []), (10, []), (11, []), (12, [11]), (13, []), (14, []), (15, []), (16, []), (17, []), (18, []), (19, []), (20, [])] (by decide +kernel) ?_; conv => whnf)
            | omega
            | (refine And.intro ?_ ?_; ((try dsimp only); first | omega | (refine ⟨by omega, by omega, Int.le_trans (Int.mul_le_mul_of_nonneg_right (Int.ofNat_le.2 (Nat.le_of_ble_eq_true (rfl : Nat.ble _ 1024 = true))) (by omega)) (by omega), by omega⟩) | (refine Nat.le_trans (Nat.mul_le_mul_left _ (Nat.le_of_ble_eq_true (rfl : Nat.ble _ 1024 = true))) ?_; omega) | (unfold inI64; omega) | (constructor <;> omega) | (simp only [inI64, List.length_cons, List.length_append, List.length_nil, List.length_set] at *; omega) | decide | (unfold inI64; decide)); conv => whnf)
            | omega | decide | assumption)
          all_goals first
            | (exfalso; omega)
            | (refine ⟨(b', l', i + 1), ⟨⟨?_, ?_, ?_⟩, r4⟩, ?_, Entails.mk' [(3, 3), (5, 5), (10, 10), (56, 56)] rfl rfl ⟨SV.le_refl _, SV.le_refl _, SV.le_refl _, SV.le_refl _, SV.le_refl _, SV.le_refl _, SV.le_refl _, SV.le_refl _, SV.le_refl _, SV.le_int (by omega), trivial⟩ ⟨Res.le_refl _, Res.le_refl _, Res.le_refl _, Res.le_refl _, trivial⟩⟩
               · omega
               · omega
               · omega
               · show os.length - (i + 1) < os.length - i; omega)
      all_goals (exfalso; omega)
    · have hlen := oG_len p4
      have hcmp := fun x y (hx : x ∈ l) (hy : y ∈ l) => sCmpA x y (by obtain ⟨j, k, rfl, w2, w3, w4⟩ := p4.ins x hx; exact ⟨by show (0 : Int) ≤ (j : Int); omega, by show (j : Int) ≤ 2^40; omega⟩) (by obtain ⟨j, k, rfl, w2, w3, w4⟩ := p4.ins y hy; exact ⟨by show (0 : Int) ≤ (j : Int); omega, by show (j : Int) ≤ 2^40; omega⟩)
      have hsort := sSortP 18 cmpA l (by omega) hcmp
      have hSG := oG_sort p4
      have hSl := (isort_perm cmpA l).length_eq
      obtain ⟨g1, g2⟩ := mtcG_apE hz hSG
      have h50o := z50 p z m o (isort cmpA l) hp hm ho (by omega)
      rw [g1, if_pos rfl, g2] at h50o
      have hop := hopt _ hSG
      clear hSG g1 g2 hopt hcmp
      generalize isort cmpA l = S at hsort h50o hop hSl
      generalize sumP m o S = SO at h50o hop
      conv => whnf
      repeat' (first
        | (refine CallX.of hsort [(1000001, 10)] rfl ⟨SV.le_refl _, SV.le_refl _, trivial⟩ ⟨Res.le_refl _, trivial⟩ rfl rfl ?_; rintro x rout ⟨rfl, rfl⟩; refine ⟨rfl, ?_⟩; conv => whnf)
        | (refine CallX.exact h50 rfl rfl ?_; rotate_right; conv => whnf)
        | (refine CallX.freeze _ _ _ _ 10 46 2 _ _ rfl rfl ?_; refine CallX.exact h50o rfl rfl ?_; rotate_right; conv => whnf)
        | (refine CallX.exact (h76) rfl rfl ?_; rotate_right; conv => whnf)
        | (refine CallX.exact (h78) rfl rfl ?_; rotate_right; conv => whnf)
        | (refine CallX.exact (sReady) rfl rfl ?_; rotate_right; conv => whnf)
        | (refine br_intro (fun hb => ?_) (fun hb => ?_) <;> (try simp only [decide_eq_true_eq, decide_eq_false_iff_not, Bool.not_eq_true', Bool.not_eq_false', Bool.and_eq_true, Bool.or_eq_true, beq_iff_eq, not_and, Int.not_le, Int.not_lt, Int.toNat_natCast, beq_eq_false_iff_ne, ne_eq, eq_self, not_true_eq_false, not_false_eq_true] at hb) <;> (conv => whnf))
        | (refine RegX.rule (id := 14) hT rfl [] [(0, []), (1, [0]), (2, [0, 1]), (3, [0]), (4, [0]), (5, [0, 1, 2, 3, 4]), (6, [0, 1, 2, 3, 4, 5]), (7, [0, 1, 2, 3, 4]), (8, [0, 1, 2, 3, 4]), (9, []), (10, []), (11, []), (12, [11]), (13, []), (14, []), (15, []), (16, []), (17, []), (18, []), (19, []), (20, [])] (by decide +kernel) ?_; conv => whnf)
        | omega
        | (refine And.intro ?_ ?_; ((try dsimp only); first | omega | (refine ⟨by omega, by omega, Int.le_trans (Int.mul_le_mul_of_nonneg_right (Int.ofNat_le.2 (Nat.le_of_ble_eq_true (rfl : Nat.ble _ 1024 = true))) (by omega)) (by omega), by omega⟩) | (refine Nat.le_trans (Nat.mul_le_mul_left _ (Nat.le_of_ble_eq_true (rfl : Nat.ble _ 1024 = true))) ?_; omega) | (unfold inI64; omega) | (constructor <;> omega) | (simp only [inI64, List.length_cons, List.length_append, List.length_nil, List.length_set] at *; omega) | decide | (unfold inI64; decide)); conv => whnf)
        | omega | decide | assumption)
      all_goals first
        | exact absurd hz (by assumption)
        | exact absurd (by assumption) hz
        | (exfalso; omega)
        | (refine .ret _ ?_
           conv => whnf
           refine ⟨[], ⟨?_, rfl⟩, trivial⟩
           conv => lhs; whnf
           all_goals rfl)
  · rw [if_neg hz] at h60
    generalize twoE p z m o = e at h60 hz
    repeat' (first
      | (refine CallX.exact (h60) rfl rfl ?_; rotate_right; conv => whnf)
      | (refine CallX.exact (sReady) rfl rfl ?_; rotate_right; conv => whnf)
      | (refine br_intro (fun hb => ?_) (fun hb => ?_) <;> (try simp only [decide_eq_true_eq, decide_eq_false_iff_not, Bool.not_eq_true', Bool.not_eq_false', Bool.and_eq_true, Bool.or_eq_true, beq_iff_eq, not_and, Int.not_le, Int.not_lt, Int.toNat_natCast, beq_eq_false_iff_ne, ne_eq, eq_self, not_true_eq_false, not_false_eq_true] at hb) <;> (conv => whnf))
      | (refine RegX.rule (id := 14) hT rfl [] [(0, []), (1, [0]), (2, [0, 1]), (3, [0]), (4, [0]), (5, [0, 1, 2, 3, 4]), (6, [0, 1, 2, 3, 4, 5]), (7, [0, 1, 2, 3, 4]), (8, [0, 1, 2, 3, 4]), (9, []), (10, []), (11, []), (12, [11]), (13, []), (14, []), (15, []), (16, []), (17, []), (18, []), (19, []), (20, [])] (by decide +kernel) ?_; conv => whnf)
      | omega
      | (refine And.intro ?_ ?_; ((try dsimp only); first | omega | (refine ⟨by omega, by omega, Int.le_trans (Int.mul_le_mul_of_nonneg_right (Int.ofNat_le.2 (Nat.le_of_ble_eq_true (rfl : Nat.ble _ 1024 = true))) (by omega)) (by omega), by omega⟩) | (refine Nat.le_trans (Nat.mul_le_mul_left _ (Nat.le_of_ble_eq_true (rfl : Nat.ble _ 1024 = true))) ?_; omega) | (unfold inI64; omega) | (constructor <;> omega) | (simp only [inI64, List.length_cons, List.length_append, List.length_nil, List.length_set] at *; omega) | decide | (unfold inI64; decide)); conv => whnf)
      | omega | decide | assumption)
    all_goals first
      | exact absurd hz (by assumption)
      | exact absurd (by assumption) hz
      | (exfalso; omega)
      | (refine .ret _ ?_
         conv => whnf
         refine ⟨[], ⟨?_, rfl⟩, trivial⟩
         conv => lhs; whnf
         all_goals rfl)
end Go.Proofs.YtnchgjpdggembaaGreat
