/- ServicesDue is proved: for every input the law returns true, and its argument reads afterwards as it read before. Conditions: those of the given row alone. -/
import Derived.Test.YtellmmmohdjpeaaDoorSdConOct
set_option linter.unusedVariables false
set_option linter.unusedSimpArgs false
set_option maxRecDepth 20000
namespace Go.Proofs.YtellmmmohdjpeaaDoor
open Go Go.Eng
structure Ivl where
  kind : List UInt8
  km : Int
  days : Int
def ivF : Ivl → List DV := fun s => [.str s.kind, .int .i64 s.km, .int .i64 s.days]
def iv0 : Ivl := ⟨[], 0, 0⟩
abbrev ivls (l : List Ivl) : DV := seqD 3 ivF iv0 l
structure Svc where
  v : List UInt8
  kind : List UInt8
  day : Int
  meter : Int
def svF : Svc → List DV := fun s => [.str s.v, .str s.kind, .int .i64 s.day, .int .i64 s.meter]
def sv0 : Svc := ⟨[], [], 0, 0⟩
abbrev svcs (l : List Svc) : DV := seqD 4 svF sv0 l
structure Du where
  kind : List UInt8
  day : Int
  km : Int
def duF : Du → List DV := fun s => [.str s.kind, .int .i64 s.day, .int .i64 s.km]
def du0 : Du := ⟨[], 0, 0⟩
abbrev dus (l : List Du) : DV := seqD 3 duF du0 l
theorem du_eq {a b : Du} : a = b ↔ a.kind = b.kind ∧ a.day = b.day ∧ a.km = b.km := by cases a; cases b; simp
instance : DecidableEq Du := fun _ _ => decidable_of_iff _ du_eq.symm
def ivE (l : List Ivl) (i : Nat) : Int :=
  let x := l.getD i iv0
  if isKeyB x.kind = false then 5 else if 0 < i ∧ strLe x.kind (l.getD (i - 1) iv0).kind = true then 7 else if ¬ ((0 ≤ x.km ∧ x.km ≤ 1000000) ∧ (0 ≤ x.days ∧ x.days ≤ 100000)) then 1 else if x.km = 0 ∧ x.days = 0 then 3 else 0
def ivsE (l : List Ivl) : Int := if 500 < l.length then 2 else firstAt (ivE l) l.length
def svE (l : List Svc) (i : Nat) : Int :=
  let x := l.getD i sv0
  if isKeyB x.v = false ∨ isKeyB x.kind = false then 5 else if ¬ ((0 ≤ x.day ∧ x.day ≤ 4000) ∧ (0 ≤ x.meter ∧ x.meter ≤ 10000000)) then 1 else if 0 < i ∧ x.day < (l.getD (i - 1) sv0).day then 7 else 0
def svsE (l : List Svc) : Int := if 500 < l.length then 2 else firstAt (svE l) l.length
def ivK (x : Ivl) : Prop := x.kind.length ≤ 2^40
def ivOk (l : List Ivl) : Prop := l.length ≤ 2^40 ∧ ∀ x ∈ l, ivK x
def svK (x : Svc) : Prop := x.v.length ≤ 2^40 ∧ x.kind.length ≤ 2^40
def svOk (l : List Svc) : Prop := l.length ≤ 2^40 ∧ ∀ x ∈ l, svK x
def svB (x : Svc) : Prop := (0 ≤ x.day ∧ x.day ≤ 4000) ∧ (0 ≤ x.meter ∧ x.meter ≤ 10000000)
/-- The last service of a vehicle and kind among the first n, or the first one of all. -/
def lastS (d : List Svc) (f : Svc) (kind : List UInt8) : Nat → Svc
  | 0 => f
  | j + 1 => if (d.getD j sv0).v = f.v ∧ (d.getD j sv0).kind = kind then d.getD j sv0 else lastS d f kind j
def dueO (x : Ivl) (s : Svc) (meter : Int) : Du := ⟨x.kind, if 0 < x.days then s.day + x.days else 1000000, if 0 < x.km then s.meter + x.km - meter else 1000000000⟩
def duesL (l : List Ivl) (d : List Svc) (f : Svc) (meter : Int) : Nat → List Du
  | 0 => []
  | i + 1 => duesL l d f meter i ++ [dueO (l.getD i iv0) (lastS d f (l.getD i iv0).kind d.length) meter]
def duesE (l : List Ivl) (d : List Svc) (f : Svc) (meter : Int) : Int := firstE [ivsE l, svsE d, svsE [f], if ¬ (0 ≤ meter ∧ meter ≤ 10000000) then 1 else 0]
theorem duesL_len (l : List Ivl) (d : List Svc) (f : Svc) (meter : Int) : ∀ i, (duesL l d f meter i).length = i := by
  intro i
  induction i with
  | zero => rfl
  | succ i ih => rw [duesL, List.length_append, ih]; rfl
theorem svs_bd {l : List Svc} (h : svsE l = 0) : l.length ≤ 500 ∧ ∀ i, i < l.length → svB (l.getD i sv0) := by
  unfold svsE at h
  split at h
  · cases h
  refine ⟨by omega, fun i hi => ?_⟩
  have := firstAt_all h i hi
  unfold svE at this
  simp only at this
  unfold svB
  grind
theorem ivs_bd {l : List Ivl} (h : ivsE l = 0) : l.length ≤ 500 ∧ ∀ i, i < l.length → (0 ≤ (l.getD i iv0).km ∧ (l.getD i iv0).km ≤ 1000000) ∧ (0 ≤ (l.getD i iv0).days ∧ (l.getD i iv0).days ≤ 100000) := by
  unfold ivsE at h
  split at h
  · cases h
  refine ⟨by omega, fun i hi => ?_⟩
  have := firstAt_all h i hi
  unfold ivE at this
  simp only at this
  grind
theorem lastS_bd {d : List Svc} {f : Svc} {kind : List UInt8} (hf : svB f) (hd : ∀ i, i < d.length → svB (d.getD i sv0)) : ∀ j, j ≤ d.length → svB (lastS d f kind j) := by
  intro j
  induction j with
  | zero => intro _; exact hf
  | succ j ih =>
    intro h
    rw [lastS]
    split
    · exact hd j (by omega)
    · exact ih (by omega)
theorem dues_zero {l : List Ivl} {d : List Svc} {f : Svc} {meter : Int} (h : duesE l d f meter = 0) : ivsE l = 0 ∧ svsE d = 0 ∧ svB f ∧ (0 ≤ meter ∧ meter ≤ 10000000) ∧ svsE [f] = 0 := by
  unfold duesE at h
  simp only [firstE] at h
  have h3 : svsE [f] = 0 := by grind
  refine ⟨by grind, by grind, ?_, by grind, h3⟩
  exact (svs_bd h3).2 0 (by simp)
-- shift.CheckIntervals
theorem s54 (l : List Ivl) (hk : ivOk l) : FSpec Tryd.prog 54 [.d (ivls l)] [] (fun x r => x = .d (.int .i64 (ivsE l)) ∧ r = []) := by
  refine spec_of hT (C := []) Tryd.func54 rfl Tryd.call54 rfl rfl rfl ?_
  conv => whnf
  refine br_intro (fun h0 => ?_) (fun h0 => ?_)
  · simp at h0
    conv => whnf
    refine .ret _ ?_
    conv => whnf
    refine ⟨[], ⟨?_, rfl⟩, trivial⟩
    conv => lhs; whnf
    unfold ivsE; rw [if_pos (by omega)]
  simp at h0
  conv => whnf
  refine LoopX.rule hT (C := []) (ι := Nat) (fun i => i ≤ l.length ∧ ∀ j, j < i → ivE l j = 0) (fun i => mkSt [(0, .d (ivls l)), (8, .d (ivls l)), (9, .d (.int .i64 l.length)), (10, .d (.int .i64 i))] []) (fun i => l.length - i) 0 ⟨by omega, by omega⟩ (by refine Entails.mk' [] rfl rfl ?_ ?_ <;> repeat' (first | exact True.intro | exact SV.le_refl _ | exact Res.le_refl _ | exact SV.le_int (by omega) | exact SV.le_any _ | refine And.intro ?_ ?_)) ?_
  rintro i ⟨p1, p2⟩
  have hx : (i : Int) < l.length → ivK (l.getD (i : Int).toNat iv0) := fun hi => hk.2 _ (getD_mem (by omega))
  have e1 : (i : Int).toNat = i := Int.toNat_natCast i
  have hbad : ∀ e : Int, i < l.length → e ≠ 0 → ivE l i = e → ivsE l = e := fun e h h1 h2 => by
    unfold ivsE; rw [if_neg (by omega)]
    exact firstAt_eq h p2 h1 h2
  conv => whnf
  repeat' (first
    | (refine CallX.exact (s108 _ (hx (by omega))) rfl rfl ?_; rotate_right; conv => whnf)
    | (refine CallX.exact (s119 _ _ _) rfl rfl ?_; rotate_right; conv => whnf)
    | (refine br_intro (fun hb => ?_) (fun hb => ?_) <;> (try simp only [decide_eq_true_eq, decide_eq_false_iff_not, Bool.not_eq_true', Bool.not_eq_false', Bool.and_eq_true, Bool.or_eq_true, beq_iff_eq, not_and, Int.not_le, Int.not_lt, Int.toNat_natCast, beq_eq_false_iff_ne, ne_eq, eq_self, not_true_eq_false, not_false_eq_true] at hb) <;> (conv => whnf))
    | (refine RegX.rule (id := 8) hT rfl [] [(0, []), (1, []), (2, []), (3, []), (4, []), (5, [3, 4]), (6, [3, 4, 5]), (7, [3, 4, 5]), (8, [3, 4]), (9, [3, 4]), (10, [3, 4]), (11, []), (12, []), (13, [])] (by decide +kernel) ?_; conv => whnf)
    | omega
    | (refine And.intro ?_ ?_; ((try dsimp only); first | omega | (refine ⟨by omega, by omega, Int.le_trans (Int.mul_le_mul_of_nonneg_right (Int.ofNat_le.2 (Nat.le_of_ble_eq_true (rfl : Nat.ble _ 1024 = true))) (by omega)) (by omega), by omega⟩) | (refine Nat.le_trans (Nat.mul_le_mul_left _ (Nat.le_of_ble_eq_true (rfl : Nat.ble _ 1024 = true))) ?_; omega) | (unfold inI64; omega) | (constructor <;> omega) | (simp only [inI64, List.length_cons, List.length_append, List.length_nil, List.length_set] at *; omega) | decide | (unfold inI64; decide)); conv => whnf)
    | omega | decide | assumption)
  all_goals first
    | (refine ⟨i + 1, ⟨by omega, first_step p2 (by clear p2 hbad hk hx; simp only [e1, toNat_pred] at *; unfold ivE strLe; grind)⟩, by omega, (by refine Entails.mk' [] rfl rfl ?_ ?_ <;> repeat' (first | exact True.intro | exact SV.le_refl _ | exact Res.le_refl _ | exact SV.le_int (by omega) | exact SV.le_any _ | refine And.intro ?_ ?_))⟩)
    | (refine .ret _ ?_
       conv => whnf
       refine ⟨[], ⟨?_, rfl⟩, trivial⟩
       conv => lhs; whnf
       congr 2
       first
         | exact (hbad _ (by omega) (by decide) (by clear p2 hbad hk hx; simp only [e1, toNat_pred] at *; unfold ivE strLe; grind)).symm
         | (have : i = l.length := by omega
            subst this
            unfold ivsE; rw [if_neg (by omega), firstAt_zero p2]))
-- IntervalsFault
theorem s52 (l : List Ivl) (hk : ivOk l) : FSpec Tryd.prog 52 [.d (ivls l)] [] (fun x r => x = .d (.int .i64 (ivsE l)) ∧ r = []) := by
  refine spec_of hT (C := []) Tryd.func52 rfl Tryd.call52 rfl rfl rfl ?_
  conv => whnf
  refine br_intro (fun h0 => ?_) (fun h0 => ?_)
  · simp at h0
    conv => whnf
    refine .ret _ ?_
    conv => whnf
    refine ⟨[], ⟨?_, rfl⟩, trivial⟩
    conv => lhs; whnf
    unfold ivsE; rw [if_pos (by omega)]
  simp at h0
  conv => whnf
  refine LoopX.rule hT (C := []) (ι := Nat) (fun i => i ≤ l.length ∧ ∀ j, j < i → ivE l j = 0) (fun i => mkSt [(3, .d (.str (if i = 0 then [] else (l.getD (i - 1) iv0).kind))), (9, .d (ivls l)), (10, .d (.int .i64 l.length)), (11, .d (.int .i64 i))] []) (fun i => l.length - i) 0 ⟨by omega, by omega⟩ (by refine Entails.mk' [] rfl rfl ?_ ?_ <;> repeat' (first | exact True.intro | exact SV.le_refl _ | exact Res.le_refl _ | exact SV.le_int (by omega) | exact SV.le_any _ | refine And.intro ?_ ?_)) ?_
  rintro i ⟨p1, p2⟩
  have hx : (i : Int) < l.length → ivK (l.getD (i : Int).toNat iv0) := fun hi => hk.2 _ (getD_mem (by omega))
  have e1 : (i : Int).toNat = i := Int.toNat_natCast i
  have hbad : ∀ e : Int, i < l.length → e ≠ 0 → ivE l i = e → ivsE l = e := fun e h h1 h2 => by
    unfold ivsE; rw [if_neg (by omega)]
    exact firstAt_eq h p2 h1 h2
  conv => whnf
  repeat' (first
    | (refine CallX.exact (s21 _ (hx (by omega))) rfl rfl ?_; rotate_right; conv => whnf)
    | (refine CallX.exact (s109 _ _ _) rfl rfl ?_; rotate_right; conv => whnf)
    | (refine br_intro (fun hb => ?_) (fun hb => ?_) <;> (try simp only [decide_eq_true_eq, decide_eq_false_iff_not, Bool.not_eq_true', Bool.not_eq_false', Bool.and_eq_true, Bool.or_eq_true, beq_iff_eq, not_and, Int.not_le, Int.not_lt, Int.toNat_natCast, beq_eq_false_iff_ne, ne_eq, eq_self, not_true_eq_false, not_false_eq_true] at hb) <;> (conv => whnf))
    | omega
    | (refine And.intro ?_ ?_; ((try dsimp only); first | omega | (refine ⟨by omega, by omega, Int.le_trans (Int.mul_le_mul_of_nonneg_right (Int.ofNat_le.2 (Nat.le_of_ble_eq_true (rfl : Nat.ble _ 1024 = true))) (by omega)) (by omega), by omega⟩) | (refine Nat.le_trans (Nat.mul_le_mul_left _ (Nat.le_of_ble_eq_true (rfl : Nat.ble _ 1024 = true))) ?_; omega) | (unfold inI64; omega) | (constructor <;> omega) | (simp only [inI64, List.length_cons, List.length_append, List.length_nil, List.length_set] at *; omega) | decide | (unfold inI64; decide)); conv => whnf)
    | omega | decide | assumption)
  all_goals first
    | (refine ⟨i + 1, ⟨by omega, first_step p2 (by clear p2 hbad hk hx; simp only [e1] at *; unfold ivE strLe; grind)⟩, by omega, Entails.mk' [] rfl rfl ⟨(by rw [show (if i + 1 = 0 then ([] : List UInt8) else (l.getD (i + 1 - 1) iv0).kind) = (l.getD (i : Int).toNat iv0).kind from by rw [if_neg (by omega), e1, Nat.add_sub_cancel]]; exact SV.le_refl _), SV.le_refl _, SV.le_refl _, SV.le_refl _, trivial⟩ trivial⟩)
    | (refine .ret _ ?_
       conv => whnf
       refine ⟨[], ⟨?_, rfl⟩, trivial⟩
       conv => lhs; whnf
       congr 2
       first
         | exact (hbad _ (by omega) (by decide) (by clear p2 hbad hk hx; simp only [e1] at *; unfold ivE strLe; grind [isKey_nil, less_nil])).symm
         | (have : i = l.length := by omega
            subst this
            unfold ivsE; rw [if_neg (by omega), firstAt_zero p2]))
-- shift.CheckServices
theorem s55 (l : List Svc) (hk : svOk l) : FSpec Tryd.prog 55 [.d (svcs l)] [] (fun x r => x = .d (.int .i64 (svsE l)) ∧ r = []) := by
  refine spec_of hT (C := []) Tryd.func55 rfl Tryd.call55 rfl rfl rfl ?_
  conv => whnf
  refine br_intro (fun h0 => ?_) (fun h0 => ?_)
  · simp at h0
    conv => whnf
    refine .ret _ ?_
    conv => whnf
    refine ⟨[], ⟨?_, rfl⟩, trivial⟩
    conv => lhs; whnf
    unfold svsE; rw [if_pos (by omega)]
  simp at h0
  conv => whnf
  refine LoopX.rule hT (C := []) (ι := Nat) (fun i => i ≤ l.length ∧ ∀ j, j < i → svE l j = 0) (fun i => mkSt [(0, .d (svcs l)), (8, .d (svcs l)), (9, .d (.int .i64 l.length)), (10, .d (.int .i64 i))] []) (fun i => l.length - i) 0 ⟨by omega, by omega⟩ (by refine Entails.mk' [] rfl rfl ?_ ?_ <;> repeat' (first | exact True.intro | exact SV.le_refl _ | exact Res.le_refl _ | exact SV.le_int (by omega) | exact SV.le_any _ | refine And.intro ?_ ?_)) ?_
  rintro i ⟨p1, p2⟩
  have hx : (i : Int) < l.length → svK (l.getD (i : Int).toNat sv0) := fun hi => hk.2 _ (getD_mem (by omega))
  have e1 : (i : Int).toNat = i := Int.toNat_natCast i
  have hbad : ∀ e : Int, i < l.length → e ≠ 0 → svE l i = e → svsE l = e := fun e h h1 h2 => by
    unfold svsE; rw [if_neg (by omega)]
    exact firstAt_eq h p2 h1 h2
  conv => whnf
  repeat' (first
    | (refine CallX.exact (s108 _ (hx (by omega)).1) rfl rfl ?_; rotate_right; conv => whnf)
    | (refine CallX.exact (s108 _ (hx (by omega)).2) rfl rfl ?_; rotate_right; conv => whnf)
    | (refine CallX.exact (s119 _ _ _) rfl rfl ?_; rotate_right; conv => whnf)
    | (refine br_intro (fun hb => ?_) (fun hb => ?_) <;> (try simp only [decide_eq_true_eq, decide_eq_false_iff_not, Bool.not_eq_true', Bool.not_eq_false', Bool.and_eq_true, Bool.or_eq_true, beq_iff_eq, not_and, Int.not_le, Int.not_lt, Int.toNat_natCast, beq_eq_false_iff_ne, ne_eq, eq_self, not_true_eq_false, not_false_eq_true] at hb) <;> (conv => whnf))
    | (refine RegX.rule (id := 10) hT rfl [] [(0, []), (1, []), (2, []), (3, []), (4, []), (5, [3, 4]), (6, [3, 4, 5]), (7, [3, 4, 5]), (8, [3, 4]), (9, [3, 4]), (10, [3, 4]), (11, []), (12, []), (13, [])] (by decide +kernel) ?_; conv => whnf)
    | omega
    | (refine And.intro ?_ ?_; ((try dsimp only); first | omega | (refine ⟨by omega, by omega, Int.le_trans (Int.mul_le_mul_of_nonneg_right (Int.ofNat_le.2 (Nat.le_of_ble_eq_true (rfl : Nat.ble _ 1024 = true))) (by omega)) (by omega), by omega⟩) | (refine Nat.le_trans (Nat.mul_le_mul_left _ (Nat.le_of_ble_eq_true (rfl : Nat.ble _ 1024 = true))) ?_; omega) | (unfold inI64; omega) | (constructor <;> omega) | (simp only [inI64, List.length_cons, List.length_append, List.length_nil, List.length_set] at *; omega) | decide | (unfold inI64; decide)); conv => whnf)
    | omega | decide | assumption)
  all_goals first
    | (refine ⟨i + 1, ⟨by omega, first_step p2 (by clear p2 hbad hk hx; simp only [e1, toNat_pred] at *; unfold svE ; grind)⟩, by omega, (by refine Entails.mk' [] rfl rfl ?_ ?_ <;> repeat' (first | exact True.intro | exact SV.le_refl _ | exact Res.le_refl _ | exact SV.le_int (by omega) | exact SV.le_any _ | refine And.intro ?_ ?_))⟩)
    | (refine .ret _ ?_
       conv => whnf
       refine ⟨[], ⟨?_, rfl⟩, trivial⟩
       conv => lhs; whnf
       congr 2
       first
         | exact (hbad _ (by omega) (by decide) (by clear p2 hbad hk hx; simp only [e1, toNat_pred] at *; unfold svE ; grind)).symm
         | (have : i = l.length := by omega
            subst this
            unfold svsE; rw [if_neg (by omega), firstAt_zero p2]))
-- ServicesFault
theorem s53 (l : List Svc) (hk : svOk l) : FSpec Tryd.prog 53 [.d (svcs l)] [] (fun x r => x = .d (.int .i64 (svsE l)) ∧ r = []) := by
  refine spec_of hT (C := []) Tryd.func53 rfl Tryd.call53 rfl rfl rfl ?_
  conv => whnf
  refine br_intro (fun h0 => ?_) (fun h0 => ?_)
  · simp at h0
    conv => whnf
    refine .ret _ ?_
    conv => whnf
    refine ⟨[], ⟨?_, rfl⟩, trivial⟩
    conv => lhs; whnf
    unfold svsE; rw [if_pos (by omega)]
  simp at h0
  conv => whnf
  refine LoopX.rule hT (C := []) (ι := Nat) (fun i => i ≤ l.length ∧ ∀ j, j < i → svE l j = 0) (fun i => mkSt [(0, .d (svcs l)), (8, .d (svcs l)), (9, .d (.int .i64 l.length)), (10, .d (.int .i64 i))] []) (fun i => l.length - i) 0 ⟨by omega, by omega⟩ (by refine Entails.mk' [] rfl rfl ?_ ?_ <;> repeat' (first | exact True.intro | exact SV.le_refl _ | exact Res.le_refl _ | exact SV.le_int (by omega) | exact SV.le_any _ | refine And.intro ?_ ?_)) ?_
  rintro i ⟨p1, p2⟩
  have hx : (i : Int) < l.length → svK (l.getD (i : Int).toNat sv0) := fun hi => hk.2 _ (getD_mem (by omega))
  have e1 : (i : Int).toNat = i := Int.toNat_natCast i
  have hbad : ∀ e : Int, i < l.length → e ≠ 0 → svE l i = e → svsE l = e := fun e h h1 h2 => by
    unfold svsE; rw [if_neg (by omega)]
    exact firstAt_eq h p2 h1 h2
  conv => whnf
  repeat' (first
    | (refine CallX.exact (s21 _ (hx (by omega)).1) rfl rfl ?_; rotate_right; conv => whnf)
    | (refine CallX.exact (s21 _ (hx (by omega)).2) rfl rfl ?_; rotate_right; conv => whnf)
    | (refine CallX.exact (s109 _ _ _) rfl rfl ?_; rotate_right; conv => whnf)
    | (refine br_intro (fun hb => ?_) (fun hb => ?_) <;> (try simp only [decide_eq_true_eq, decide_eq_false_iff_not, Bool.not_eq_true', Bool.not_eq_false', Bool.and_eq_true, Bool.or_eq_true, beq_iff_eq, not_and, Int.not_le, Int.not_lt, Int.toNat_natCast, beq_eq_false_iff_ne, ne_eq, eq_self, not_true_eq_false, not_false_eq_true] at hb) <;> (conv => whnf))
    | (refine RegX.rule (id := 10) hT rfl [] [(0, []), (1, []), (2, []), (3, []), (4, []), (5, [3, 4]), (6, [3, 4, 5]), (7, [3, 4, 5]), (8, [3, 4]), (9, [3, 4]), (10, [3, 4]), (11, []), (12, []), (13, [])] (by decide +kernel) ?_; conv => whnf)
    | omega
    | (refine And.intro ?_ ?_; ((try dsimp only); first | omega | (refine ⟨by omega, by omega, Int.le_trans (Int.mul_le_mul_of_nonneg_right (Int.ofNat_le.2 (Nat.le_of_ble_eq_true (rfl : Nat.ble _ 1024 = true))) (by omega)) (by omega), by omega⟩) | (refine Nat.le_trans (Nat.mul_le_mul_left _ (Nat.le_of_ble_eq_true (rfl : Nat.ble _ 1024 = true))) ?_; omega) | (unfold inI64; omega) | (constructor <;> omega) | (simp only [inI64, List.length_cons, List.length_append, List.length_nil, List.length_set] at *; omega) | decide | (unfold inI64; decide)); conv => whnf)
    | omega | decide | assumption)
  all_goals first
    | (refine ⟨i + 1, ⟨by omega, first_step p2 (by clear p2 hbad hk hx; simp only [e1, toNat_pred] at *; unfold svE ; grind)⟩, by omega, (by refine Entails.mk' [] rfl rfl ?_ ?_ <;> repeat' (first | exact True.intro | exact SV.le_refl _ | exact Res.le_refl _ | exact SV.le_int (by omega) | exact SV.le_any _ | refine And.intro ?_ ?_))⟩)
    | (refine .ret _ ?_
       conv => whnf
       refine ⟨[], ⟨?_, rfl⟩, trivial⟩
       conv => lhs; whnf
       congr 2
       first
         | exact (hbad _ (by omega) (by decide) (by clear p2 hbad hk hx; simp only [e1, toNat_pred] at *; unfold svE ; grind)).symm
         | (have : i = l.length := by omega
            subst this
            unfold svsE; rw [if_neg (by omega), firstAt_zero p2]))
-- slices.Equal of dues
theorem s56 (l m : List Du) (hl : l.length ≤ 2^40) : FSpec Tryd.prog 56 [.d (dus l), .d (dus m)] [] (fun x r => x = .d (.bool (decide (l = m))) ∧ r = []) := by
  refine spec_of hT (C := []) Tryd.func56 rfl Tryd.call56 rfl rfl rfl ?_
  conv => whnf
  repeat' (first
    | (refine br_intro (fun hb => ?_) (fun hb => ?_) <;> (try simp only [decide_eq_true_eq, decide_eq_false_iff_not, Bool.not_eq_true', Bool.not_eq_false', Bool.and_eq_true, Bool.or_eq_true, beq_iff_eq, not_and, Int.not_le, Int.not_lt, Int.toNat_natCast, beq_eq_false_iff_ne, ne_eq, eq_self, not_true_eq_false, not_false_eq_true] at hb) <;> (conv => whnf))
    | (refine RegX.rule (id := 6) hT rfl [] [(0, []), (1, [0]), (2, []), (3, []), (4, [0, 1, 2, 3]), (5, [0, 1, 2, 3, 4]), (6, [0, 1, 2, 3]), (7, [0, 1, 2, 3]), (8, [])] (by decide +kernel) ?_; conv => whnf)
    | omega
    | (refine And.intro ?_ ?_; ((try dsimp only); first | omega | (refine ⟨by omega, by omega, Int.le_trans (Int.mul_le_mul_of_nonneg_right (Int.ofNat_le.2 (Nat.le_of_ble_eq_true (rfl : Nat.ble _ 1024 = true))) (by omega)) (by omega), by omega⟩) | (refine Nat.le_trans (Nat.mul_le_mul_left _ (Nat.le_of_ble_eq_true (rfl : Nat.ble _ 1024 = true))) ?_; omega) | (unfold inI64; omega) | (constructor <;> omega) | (simp only [inI64, List.length_cons, List.length_append, List.length_nil, List.length_set] at *; omega) | decide | (unfold inI64; decide)); conv => whnf)
    | omega | decide | assumption)
  · refine .ret _ ?_
    conv => whnf
    refine ⟨[], ⟨?_, rfl⟩, trivial⟩
    conv => lhs; whnf
    have : ¬ l = m := fun q => by subst q; simp at hb
    simp [this]
  have hlen : l.length = m.length := by
    omega
  refine LoopX.rule hT (C := []) (ι := Nat) (fun i => i ≤ l.length ∧ ∀ j, j < i → l.getD j du0 = m.getD j du0) (fun i => mkSt [(0, .d (dus l)), (1, .d (dus m)), (12, .d (.int .i64 l.length)), (13, .d (.int .i64 i))] []) (fun i => l.length - i) 0 ⟨by omega, by omega⟩ (by refine Entails.mk' [] rfl rfl ?_ ?_ <;> repeat' (first | exact True.intro | exact SV.le_refl _ | exact Res.le_refl _ | exact SV.le_int (by omega) | exact SV.le_any _ | refine And.intro ?_ ?_)) ?_
  rintro i ⟨p1, p2⟩
  have e1 : (i : Int).toNat = i := Int.toNat_natCast i
  conv => whnf
  repeat' (first
    | (refine br_intro (fun hb => ?_) (fun hb => ?_) <;> (try simp only [decide_eq_true_eq, decide_eq_false_iff_not, Bool.not_eq_true', Bool.not_eq_false', Bool.and_eq_true, Bool.or_eq_true, beq_iff_eq, not_and, Int.not_le, Int.not_lt, Int.toNat_natCast, beq_eq_false_iff_ne, ne_eq, eq_self, not_true_eq_false, not_false_eq_true] at hb) <;> (conv => whnf))
    | (refine RegX.rule (id := 6) hT rfl [] [(0, []), (1, [0]), (2, []), (3, []), (4, [0, 1, 2, 3]), (5, [0, 1, 2, 3, 4]), (6, [0, 1, 2, 3]), (7, [0, 1, 2, 3]), (8, [])] (by decide +kernel) ?_; conv => whnf)
    | omega
    | (refine And.intro ?_ ?_; ((try dsimp only); first | omega | (refine ⟨by omega, by omega, Int.le_trans (Int.mul_le_mul_of_nonneg_right (Int.ofNat_le.2 (Nat.le_of_ble_eq_true (rfl : Nat.ble _ 1024 = true))) (by omega)) (by omega), by omega⟩) | (refine Nat.le_trans (Nat.mul_le_mul_left _ (Nat.le_of_ble_eq_true (rfl : Nat.ble _ 1024 = true))) ?_; omega) | (unfold inI64; omega) | (constructor <;> omega) | (simp only [inI64, List.length_cons, List.length_append, List.length_nil, List.length_set] at *; omega) | decide | (unfold inI64; decide)); conv => whnf)
    | omega | decide | assumption)
  · refine .ret _ ?_
    conv => whnf
    refine ⟨[], ⟨?_, rfl⟩, trivial⟩
    conv => lhs; whnf
    have : ¬ l = m := fun q => by subst q; simp at hb
    simp [this]
  · exact ⟨i + 1, ⟨by omega, all_step p2 (by rw [du_eq]; simpa [and_assoc] using hb)⟩, by omega, (by refine Entails.mk' [] rfl rfl ?_ ?_ <;> repeat' (first | exact True.intro | exact SV.le_refl _ | exact Res.le_refl _ | exact SV.le_int (by omega) | exact SV.le_any _ | refine And.intro ?_ ?_))⟩
  · refine .ret _ ?_
    conv => whnf
    refine ⟨[], ⟨?_, rfl⟩, trivial⟩
    conv => lhs; whnf
    have : i = l.length := by omega
    subst this
    simp [eq_of_getD du0 hlen p2]
end Go.Proofs.YtellmmmohdjpeaaDoor
set_option maxRecDepth 20000
namespace Go.Proofs.YtellmmmohdjpeaaDoor
open Go Go.Eng
-- shift.Dues
theorem s51 (l : List Ivl) (d : List Svc) (f : Svc) (meter : Int) (hE : duesE l d f meter = 0) (hl : ivOk l) (hd : svOk d) (hf : svOk [f]) :
    FSpec Tryd.prog 51 [.d (ivls l), .d (svcs d), .agg ((svF f).map .d), .d (.int .i64 meter)] [] (fun x r => x = .tup [.d (dus (duesL l d f meter l.length)), .d (.int .i64 0)] ∧ r = []) := by
  obtain ⟨z1, z2, z3, z4, z5⟩ := dues_zero hE
  obtain ⟨l1, l2⟩ := ivs_bd z1
  obtain ⟨d1, d2⟩ := svs_bd z2
  refine spec_of hT (C := []) Tryd.func51 rfl Tryd.call51 rfl rfl rfl ?_
  conv => whnf
  have h54 := s54 l hl
  have h55 := s55 d hd
  have h5f := s55 [f] hf
  rw [z1] at h54
  rw [z2] at h55
  rw [z5] at h5f
  have h119 := s119 meter 0 10000000
  rw [decide_eq_true z4] at h119
  have h105 := s105 [0, 0, 0, 0] (by simp)
  rw [show firstE [0, 0, 0, 0] = 0 from rfl] at h105
  repeat' (first
    | (refine CallX.exact (h54) rfl rfl ?_; rotate_right; conv => whnf)
    | (refine CallX.exact (h55) rfl rfl ?_; rotate_right; conv => whnf)
    | (refine CallX.pure h5f ⟨SV.le_lit (l := [f]) rfl rfl, trivial⟩ rfl ?_; conv => whnf)
    | (refine CallX.exact (h119) rfl rfl ?_; rotate_right; conv => whnf)
    | (refine CallX.exact (s107 _ _) rfl rfl ?_; rotate_right; conv => whnf)
    | (refine CallX.pure h105 ⟨SV.le_lit (by rfl) (by rfl), trivial⟩ rfl ?_; conv => whnf)
    | (refine br_intro (fun hb => ?_) (fun hb => ?_) <;> (try simp only [decide_eq_true_eq, decide_eq_false_iff_not, Bool.not_eq_true', Bool.not_eq_false', Bool.and_eq_true, Bool.or_eq_true, beq_iff_eq, not_and, Int.not_le, Int.not_lt, Int.toNat_natCast, beq_eq_false_iff_ne, ne_eq, eq_self, not_true_eq_false, not_false_eq_true] at hb) <;> (conv => whnf))
    | (refine RegX.rule (id := 1) hT rfl [] [(0, []), (2, [0]), (4, [0, 2]), (5, [0, 2]), (7, [0, 2, 4, 5]), (1, [2, 4, 5, 7]), (3, [4, 5, 7]), (6, [7]), (8, []), (9, []), (10, []), (11, []), (12, []), (13, [])] (by decide +kernel) ?_; conv => whnf)
    | omega
    | (refine And.intro ?_ ?_; ((try dsimp only); first | omega | (refine ⟨by omega, by omega, Int.le_trans (Int.mul_le_mul_of_nonneg_right (Int.ofNat_le.2 (Nat.le_of_ble_eq_true (rfl : Nat.ble _ 1024 = true))) (by omega)) (by omega), by omega⟩) | (refine Nat.le_trans (Nat.mul_le_mul_left _ (Nat.le_of_ble_eq_true (rfl : Nat.ble _ 1024 = true))) ?_; omega) | (unfold inI64; omega) | (constructor <;> omega) | (simp only [inI64, List.length_cons, List.length_append, List.length_nil, List.length_set] at *; omega) | decide | (unfold inI64; decide)); conv => whnf)
    | omega | decide | assumption)
  refine LoopX.rule hT (C := []) (ι := Nat) (fun i => i ≤ l.length) (fun i => mkSt [(1, .d (svcs d)), (3, .d (.int .i64 meter)), (6, .ptr 6 0), (11, .buf 11), (34, .d (ivls l)), (35, .d (.int .i64 l.length)), (36, .d (.int .i64 i))] [(6, .cells 90 ((svF f).map .d)), (11, seqB 98 3 duF du0 (duesL l d f meter i))]) (fun i => l.length - i) 0 (by omega) ?_ ?_
  · exact (Entails.nil 11 11 98 3 (rowF duF du0 []) rfl rfl (by decide)).trans (by refine Entails.mk' [(6, 6), (11, 11)] rfl rfl ?_ ?_ <;> repeat' (first | exact True.intro | exact SV.le_refl _ | exact Res.le_refl _ | exact SV.le_int (by omega) | exact SV.le_any _ | refine And.intro ?_ ?_))
  rintro i p1
  have e1 : (i : Int).toNat = i := Int.toNat_natCast i
  have hdl := duesL_len l d f meter i
  conv => whnf
  repeat' (first
    | (refine br_intro (fun hb => ?_) (fun hb => ?_) <;> (try simp only [decide_eq_true_eq, decide_eq_false_iff_not, Bool.not_eq_true', Bool.not_eq_false', Bool.and_eq_true, Bool.or_eq_true, beq_iff_eq, not_and, Int.not_le, Int.not_lt, Int.toNat_natCast, beq_eq_false_iff_ne, ne_eq, eq_self, not_true_eq_false, not_false_eq_true] at hb) <;> (conv => whnf))
    | (refine RegX.rule (id := 1) hT rfl [] [(0, []), (2, [0]), (4, [0, 2]), (5, [0, 2]), (7, [0, 2, 4, 5]), (1, [2, 4, 5, 7]), (3, [4, 5, 7]), (6, [7]), (8, []), (9, []), (10, []), (11, []), (12, []), (13, [])] (by decide +kernel) ?_; conv => whnf)
    | omega
    | (refine And.intro ?_ ?_; ((try dsimp only); first | omega | (refine ⟨by omega, by omega, Int.le_trans (Int.mul_le_mul_of_nonneg_right (Int.ofNat_le.2 (Nat.le_of_ble_eq_true (rfl : Nat.ble _ 1024 = true))) (by omega)) (by omega), by omega⟩) | (refine Nat.le_trans (Nat.mul_le_mul_left _ (Nat.le_of_ble_eq_true (rfl : Nat.ble _ 1024 = true))) ?_; omega) | (unfold inI64; omega) | (constructor <;> omega) | (simp only [inI64, List.length_cons, List.length_append, List.length_nil, List.length_set] at *; omega) | decide | (unfold inI64; decide)); conv => whnf)
    | omega | decide | assumption)
  · refine LoopX.rule hT (C := []) (ι := Nat) (fun j => j ≤ d.length) (fun j => mkSt [(1, .d (svcs d)), (3, .d (.int .i64 meter)), (6, .ptr 6 0), (11, .buf 11), (13, .ptr 13 0), (14, .ptr 14 0), (34, .d (ivls l)), (35, .d (.int .i64 l.length)), (36, .d (.int .i64 i)), (41, .d (svcs d)), (42, .d (.int .i64 d.length)), (43, .d (.int .i64 j))]
      [(6, .cells 90 ((svF f).map .d)), (11, seqB 98 3 duF du0 (duesL l d f meter i)), (13, .cells 203 ((ivF (l.getD i iv0)).map .d)), (14, .cells 90 ((svF (lastS d f (l.getD i iv0).kind j)).map .d))]) (fun j => d.length - j) 0 (by omega) ?_ ?_
    · exact Entails.mk' [(6, 6), (11, 11), (13, 13), (14, 14)] rfl rfl ⟨SV.le_refl _, SV.le_refl _, SV.le_refl _, SV.le_refl _, SV.le_refl _, SV.le_refl _, SV.le_refl _, SV.le_refl _, SV.le_refl _, SV.le_refl _, SV.le_refl _, SV.le_refl _, trivial⟩ ⟨Res.le_refl _, Res.le_refl _, by rw [e1]; exact Res.le_refl _, Res.le_refl _, trivial⟩
    rintro j m1
    have e2 : (j : Int).toNat = j := Int.toNat_natCast j
    have hi : i < l.length := by omega
    have hx := l2 i hi
    have hls := lastS_bd (kind := (l.getD i iv0).kind) z3 d2 j m1
    unfold svB at hls
    have hfin : j = d.length → duesL l d f meter (i + 1) = duesL l d f meter i ++ [dueO (l.getD i iv0) (lastS d f (l.getD i iv0).kind j) meter] := fun h => by subst h; rfl
    have hhit : (d.getD j sv0).v = f.v → (d.getD j sv0).kind = (l.getD i iv0).kind → lastS d f (l.getD i iv0).kind (j + 1) = d.getD j sv0 := fun h1 h2 => by rw [lastS, if_pos ⟨h1, h2⟩]
    have hmiss : ¬ ((d.getD j sv0).v = f.v ∧ (d.getD j sv0).kind = (l.getD i iv0).kind) → lastS d f (l.getD i iv0).kind (j + 1) = lastS d f (l.getD i iv0).kind j := fun h1 => by rw [lastS, if_neg h1]
    conv => whnf
    repeat' (first
      | (refine br_intro (fun hb => ?_) (fun hb => ?_) <;> (try simp only [decide_eq_true_eq, decide_eq_false_iff_not, Bool.not_eq_true', Bool.not_eq_false', Bool.and_eq_true, Bool.or_eq_true, beq_iff_eq, not_and, Int.not_le, Int.not_lt, Int.toNat_natCast, beq_eq_false_iff_ne, ne_eq, eq_self, not_true_eq_false, not_false_eq_true] at hb) <;> (conv => whnf))
      | (refine RegX.rule (id := 1) hT rfl [] [(0, []), (2, [0]), (4, [0, 2]), (5, [0, 2]), (7, [0, 2, 4, 5]), (1, [2, 4, 5, 7]), (3, [4, 5, 7]), (6, [7]), (8, []), (9, []), (10, []), (11, []), (12, []), (13, [])] (by decide +kernel) ?_; conv => whnf)
      | omega
      | (refine And.intro ?_ ?_; ((try dsimp only); first | omega | (refine ⟨by omega, by omega, Int.le_trans (Int.mul_le_mul_of_nonneg_right (Int.ofNat_le.2 (Nat.le_of_ble_eq_true (rfl : Nat.ble _ 1024 = true))) (by omega)) (by omega), by omega⟩) | (refine Nat.le_trans (Nat.mul_le_mul_left _ (Nat.le_of_ble_eq_true (rfl : Nat.ble _ 1024 = true))) ?_; omega) | (unfold inI64; omega) | (constructor <;> omega) | (simp only [inI64, List.length_cons, List.length_append, List.length_nil, List.length_set] at *; omega) | decide | (unfold inI64; decide)); conv => whnf)
      | omega | decide | assumption)
    all_goals first
      | (have hs := hhit (by assumption) (by assumption)
         exact ⟨j + 1, by omega, by omega, Entails.mk' [(6, 6), (11, 11), (13, 13), (14, 14)] rfl rfl ⟨SV.le_refl _, SV.le_refl _, SV.le_refl _, SV.le_refl _, SV.le_refl _, SV.le_refl _, SV.le_refl _, SV.le_refl _, SV.le_refl _, SV.le_refl _, SV.le_refl _, SV.le_refl _, trivial⟩ ⟨Res.le_refl _, Res.le_refl _, Res.le_refl _, by rw [hs]; exact Res.le_refl _, trivial⟩⟩)
      | (have hs := hmiss (fun q => by first | exact absurd q.1 (by assumption) | exact absurd q.2 (by assumption))
         exact ⟨j + 1, by omega, by omega, Entails.mk' [(6, 6), (11, 11), (13, 13), (14, 14)] rfl rfl ⟨SV.le_refl _, SV.le_refl _, SV.le_refl _, SV.le_refl _, SV.le_refl _, SV.le_refl _, SV.le_refl _, SV.le_refl _, SV.le_refl _, SV.le_refl _, SV.le_refl _, SV.le_refl _, trivial⟩ ⟨Res.le_refl _, Res.le_refl _, Res.le_refl _, by rw [hs]; exact Res.le_refl _, trivial⟩⟩)
      | (have hs := hfin (by omega)
         refine ⟨i + 1, by omega, by omega, Entails.mk' [(6, 6), (11, 87)] rfl rfl ⟨SV.le_refl _, SV.le_refl _, SV.le_refl _, SV.le_refl _, SV.le_refl _, SV.le_refl _, SV.le_refl _, trivial⟩ ⟨Res.le_refl _, ?_, trivial⟩⟩
         rw [hs]
         refine Res.le_snocF (x := dueO (l.getD i iv0) (lastS d f (l.getD i iv0).kind j) meter) ?_
         show [DV.str _, DV.int _ _, DV.int _ _] = [DV.str _, DV.int _ _, DV.int _ _]
         simp only [dueO]
         first
           | rw [if_pos (by omega), if_pos (by omega)]
           | rw [if_pos (by omega), if_neg (by omega)]
           | rw [if_neg (by omega), if_pos (by omega)]
           | rw [if_neg (by omega), if_neg (by omega)])
  · have hi : i = l.length := by omega
    subst hi
    refine .freeze _ 11 98 3 _ _ rfl ?_
    refine .ret _ ?_
    conv => whnf
    refine ⟨[], ⟨congrArg SV.tup ?_, rfl⟩, trivial⟩
    repeat' (refine cons_eq ?_ ?_)
    all_goals (conv => lhs; whnf)
    all_goals try (with_reducible rfl)
    all_goals rfl
-- DuesOf
theorem s57 (l : List Ivl) (d : List Svc) (f : Svc) (meter : Int) (hE : duesE l d f meter = 0)  :
    FSpec Tryd.prog 57 [.d (ivls l), .d (svcs d), .agg ((svF f).map .d), .d (.int .i64 meter)] [] (fun x r => x = .d (dus (duesL l d f meter l.length)) ∧ r = []) := by
  obtain ⟨z1, z2, z3, z4, z5⟩ := dues_zero hE
  obtain ⟨l1, l2⟩ := ivs_bd z1
  obtain ⟨d1, d2⟩ := svs_bd z2
  refine spec_of hT (C := []) Tryd.func57 rfl Tryd.call57 rfl rfl rfl ?_
  conv => whnf
  skip
  refine LoopX.rule hT (C := []) (ι := Nat) (fun i => i ≤ l.length) (fun i => mkSt [(1, .d (svcs d)), (3, .d (.int .i64 meter)), (6, .ptr 6 0), (9, .buf 9), (16, .d (ivls l)), (17, .d (.int .i64 l.length)), (18, .d (.int .i64 i))] [(6, .cells 90 ((svF f).map .d)), (9, seqB 98 3 duF du0 (duesL l d f meter i))]) (fun i => l.length - i) 0 (by omega) ?_ ?_
  · exact (Entails.nil 9 9 98 3 (rowF duF du0 []) rfl rfl (by decide)).trans (by refine Entails.mk' [(6, 6), (9, 9)] rfl rfl ?_ ?_ <;> repeat' (first | exact True.intro | exact SV.le_refl _ | exact Res.le_refl _ | exact SV.le_int (by omega) | exact SV.le_any _ | refine And.intro ?_ ?_))
  rintro i p1
  have e1 : (i : Int).toNat = i := Int.toNat_natCast i
  have hdl := duesL_len l d f meter i
  conv => whnf
  repeat' (first
    | (refine br_intro (fun hb => ?_) (fun hb => ?_) <;> (try simp only [decide_eq_true_eq, decide_eq_false_iff_not, Bool.not_eq_true', Bool.not_eq_false', Bool.and_eq_true, Bool.or_eq_true, beq_iff_eq, not_and, Int.not_le, Int.not_lt, Int.toNat_natCast, beq_eq_false_iff_ne, ne_eq, eq_self, not_true_eq_false, not_false_eq_true] at hb) <;> (conv => whnf))
    | omega
    | (refine And.intro ?_ ?_; ((try dsimp only); first | omega | (refine ⟨by omega, by omega, Int.le_trans (Int.mul_le_mul_of_nonneg_right (Int.ofNat_le.2 (Nat.le_of_ble_eq_true (rfl : Nat.ble _ 1024 = true))) (by omega)) (by omega), by omega⟩) | (refine Nat.le_trans (Nat.mul_le_mul_left _ (Nat.le_of_ble_eq_true (rfl : Nat.ble _ 1024 = true))) ?_; omega) | (unfold inI64; omega) | (constructor <;> omega) | (simp only [inI64, List.length_cons, List.length_append, List.length_nil, List.length_set] at *; omega) | decide | (unfold inI64; decide)); conv => whnf)
    | omega | decide | assumption)
  · refine LoopX.rule hT (C := []) (ι := Nat) (fun j => j ≤ d.length) (fun j => mkSt [(1, .d (svcs d)), (3, .d (.int .i64 meter)), (6, .ptr 6 0), (9, .buf 9), (11, .ptr 11 0), (12, .ptr 12 0), (16, .d (ivls l)), (17, .d (.int .i64 l.length)), (18, .d (.int .i64 i)), (23, .d (svcs d)), (24, .d (.int .i64 d.length)), (25, .d (.int .i64 j))]
      [(6, .cells 90 ((svF f).map .d)), (9, seqB 98 3 duF du0 (duesL l d f meter i)), (11, .cells 203 ((ivF (l.getD i iv0)).map .d)), (12, .cells 90 ((svF (lastS d f (l.getD i iv0).kind j)).map .d))]) (fun j => d.length - j) 0 (by omega) ?_ ?_
    · exact Entails.mk' [(6, 6), (9, 9), (11, 11), (12, 12)] rfl rfl ⟨SV.le_refl _, SV.le_refl _, SV.le_refl _, SV.le_refl _, SV.le_refl _, SV.le_refl _, SV.le_refl _, SV.le_refl _, SV.le_refl _, SV.le_refl _, SV.le_refl _, SV.le_refl _, trivial⟩ ⟨Res.le_refl _, Res.le_refl _, by rw [e1]; exact Res.le_refl _, Res.le_refl _, trivial⟩
    rintro j m1
    have e2 : (j : Int).toNat = j := Int.toNat_natCast j
    have hi : i < l.length := by omega
    have hx := l2 i hi
    have hls := lastS_bd (kind := (l.getD i iv0).kind) z3 d2 j m1
    unfold svB at hls
    have hfin : j = d.length → duesL l d f meter (i + 1) = duesL l d f meter i ++ [dueO (l.getD i iv0) (lastS d f (l.getD i iv0).kind j) meter] := fun h => by subst h; rfl
    have hhit : (d.getD j sv0).v = f.v → (d.getD j sv0).kind = (l.getD i iv0).kind → lastS d f (l.getD i iv0).kind (j + 1) = d.getD j sv0 := fun h1 h2 => by rw [lastS, if_pos ⟨h1, h2⟩]
    have hmiss : ¬ ((d.getD j sv0).v = f.v ∧ (d.getD j sv0).kind = (l.getD i iv0).kind) → lastS d f (l.getD i iv0).kind (j + 1) = lastS d f (l.getD i iv0).kind j := fun h1 => by rw [lastS, if_neg h1]
    conv => whnf
    repeat' (first
      | (refine br_intro (fun hb => ?_) (fun hb => ?_) <;> (try simp only [decide_eq_true_eq, decide_eq_false_iff_not, Bool.not_eq_true', Bool.not_eq_false', Bool.and_eq_true, Bool.or_eq_true, beq_iff_eq, not_and, Int.not_le, Int.not_lt, Int.toNat_natCast, beq_eq_false_iff_ne, ne_eq, eq_self, not_true_eq_false, not_false_eq_true] at hb) <;> (conv => whnf))
      | omega
      | (refine And.intro ?_ ?_; ((try dsimp only); first | omega | (refine ⟨by omega, by omega, Int.le_trans (Int.mul_le_mul_of_nonneg_right (Int.ofNat_le.2 (Nat.le_of_ble_eq_true (rfl : Nat.ble _ 1024 = true))) (by omega)) (by omega), by omega⟩) | (refine Nat.le_trans (Nat.mul_le_mul_left _ (Nat.le_of_ble_eq_true (rfl : Nat.ble _ 1024 = true))) ?_; omega) | (unfold inI64; omega) | (constructor <;> omega) | (simp only [inI64, List.length_cons, List.length_append, List.length_nil, List.length_set] at *; omega) | decide | (unfold inI64; decide)); conv => whnf)
      | omega | decide | assumption)
    all_goals first
      | (have hs := hhit (by assumption) (by assumption)
         exact ⟨j + 1, by omega, by omega, Entails.mk' [(6, 6), (9, 9), (11, 11), (12, 12)] rfl rfl ⟨SV.le_refl _, SV.le_refl _, SV.le_refl _, SV.le_refl _, SV.le_refl _, SV.le_refl _, SV.le_refl _, SV.le_refl _, SV.le_refl _, SV.le_refl _, SV.le_refl _, SV.le_refl _, trivial⟩ ⟨Res.le_refl _, Res.le_refl _, Res.le_refl _, by rw [hs]; exact Res.le_refl _, trivial⟩⟩)
      | (have hs := hmiss (fun q => by first | exact absurd q.1 (by assumption) | exact absurd q.2 (by assumption))
         exact ⟨j + 1, by omega, by omega, Entails.mk' [(6, 6), (9, 9), (11, 11), (12, 12)] rfl rfl ⟨SV.le_refl _, SV.le_refl _, SV.le_refl _, SV.le_refl _, SV.le_refl _, SV.le_refl _, SV.le_refl _, SV.le_refl _, SV.le_refl _, SV.le_refl _, SV.le_refl _, SV.le_refl _, trivial⟩ ⟨Res.le_refl _, Res.le_refl _, Res.le_refl _, by rw [hs]; exact Res.le_refl _, trivial⟩⟩)
      | (have hs := hfin (by omega)
         refine ⟨i + 1, by omega, by omega, Entails.mk' [(6, 6), (9, 69)] rfl rfl ⟨SV.le_refl _, SV.le_refl _, SV.le_refl _, SV.le_refl _, SV.le_refl _, SV.le_refl _, SV.le_refl _, trivial⟩ ⟨Res.le_refl _, ?_, trivial⟩⟩
         rw [hs]
         refine Res.le_snocF (x := dueO (l.getD i iv0) (lastS d f (l.getD i iv0).kind j) meter) ?_
         show [DV.str _, DV.int _ _, DV.int _ _] = [DV.str _, DV.int _ _, DV.int _ _]
         simp only [dueO]
         first
           | rw [if_pos (by omega), if_pos (by omega)]
           | rw [if_pos (by omega), if_neg (by omega)]
           | rw [if_neg (by omega), if_pos (by omega)]
           | rw [if_neg (by omega), if_neg (by omega)])
  · have hi : i = l.length := by omega
    subst hi
    refine .freeze _ 9 98 3 _ _ rfl ?_
    refine .ret _ ?_
    conv => whnf
    refine ⟨[], ⟨?_, rfl⟩, trivial⟩
    conv => lhs; whnf
    all_goals rfl
theorem s51e (l : List Ivl) (d : List Svc) (f : Svc) (meter : Int) (hE : duesE l d f meter ≠ 0) (hl : ivOk l) (hd : svOk d) (hf : svOk [f]) :
    FSpec Tryd.prog 51 [.d (ivls l), .d (svcs d), .agg ((svF f).map .d), .d (.int .i64 meter)] [] (fun x r => x = .tup [.d .nilsl, .d (.int .i64 (duesE l d f meter))] ∧ r = []) := by
  have h105 := s105 [ivsE l, svsE d, svsE [f], if (!decide (0 ≤ meter ∧ meter ≤ 10000000)) = true then 1 else 0] (by simp)
  have he : firstE [ivsE l, svsE d, svsE [f], if (!decide (0 ≤ meter ∧ meter ≤ 10000000)) = true then 1 else 0] = duesE l d f meter := by
    have hp : ∀ (p : Prop) [Decidable p], (if (!decide p) = true then (1 : Int) else 0) = if ¬ p then 1 else 0 := fun p _ => by by_cases h : p <;> simp [h]
    unfold duesE; rw [hp]
  rw [he] at h105
  generalize duesE l d f meter = e at h105 hE
  clear he
  refine spec_of hT (C := []) Tryd.func51 rfl Tryd.call51 rfl rfl rfl ?_
  conv => whnf
  repeat' (first
    | (refine CallX.exact (s54 l hl) rfl rfl ?_; rotate_right; conv => whnf)
    | (refine CallX.exact (s55 d hd) rfl rfl ?_; rotate_right; conv => whnf)
    | (refine CallX.pure (s55 [f] hf) ⟨SV.le_lit (l := [f]) rfl rfl, trivial⟩ rfl ?_; conv => whnf)
    | (refine CallX.exact (s119 _ _ _) rfl rfl ?_; rotate_right; conv => whnf)
    | (refine CallX.exact (s107 _ _) rfl rfl ?_; rotate_right; conv => whnf)
    | (refine CallX.pure h105 ⟨SV.le_lit (by rfl) (by rfl), trivial⟩ rfl ?_; conv => whnf)
    | (refine br_intro (fun hb => ?_) (fun hb => ?_) <;> (try simp only [decide_eq_true_eq, decide_eq_false_iff_not, Bool.not_eq_true', Bool.not_eq_false', Bool.and_eq_true, Bool.or_eq_true, beq_iff_eq, not_and, Int.not_le, Int.not_lt, Int.toNat_natCast, beq_eq_false_iff_ne, ne_eq, eq_self, not_true_eq_false, not_false_eq_true] at hb) <;> (conv => whnf))
    | (refine RegX.rule (id := 1) hT rfl [] [(0, []), (2, [0]), (4, [0, 2]), (5, [0, 2]), (7, [0, 2, 4, 5]), (1, [2, 4, 5, 7]), (3, [4, 5, 7]), (6, [7]), (8, []), (9, []), (10, []), (11, []), (12, []), (13, [])] (by decide +kernel) ?_; conv => whnf)
    | omega
    | (refine And.intro ?_ ?_; ((try dsimp only); first | omega | (refine ⟨by omega, by omega, Int.le_trans (Int.mul_le_mul_of_nonneg_right (Int.ofNat_le.2 (Nat.le_of_ble_eq_true (rfl : Nat.ble _ 1024 = true))) (by omega)) (by omega), by omega⟩) | (refine Nat.le_trans (Nat.mul_le_mul_left _ (Nat.le_of_ble_eq_true (rfl : Nat.ble _ 1024 = true))) ?_; omega) | (unfold inI64; omega) | (constructor <;> omega) | (simp only [inI64, List.length_cons, List.length_append, List.length_nil, List.length_set] at *; omega) | decide | (unfold inI64; decide)); conv => whnf)
    | omega | decide | assumption)
  refine .ret _ ?_
  conv => whnf
  refine ⟨[], ⟨congrArg SV.tup ?_, rfl⟩, trivial⟩
  repeat' (refine cons_eq ?_ ?_)
  all_goals (conv => lhs; whnf)
  all_goals try (with_reducible rfl)
  all_goals rfl
end Go.Proofs.YtellmmmohdjpeaaDoor
set_option maxRecDepth 20000
namespace Go.Proofs.YtellmmmohdjpeaaDoor
open Go Go.Eng
def duK (x : Du) : Prop := (0 ≤ x.day ∧ x.day ≤ 1000000) ∧ (-1000000000 ≤ x.km ∧ x.km ≤ 1000000000)
def duE (l : List Du) (i : Nat) : Int := if ¬ ((0 ≤ (l.getD i du0).day ∧ (l.getD i du0).day ≤ 1000000) ∧ (-1000000000 ≤ (l.getD i du0).km ∧ (l.getD i du0).km ≤ 1000000000)) then 1 else 0
def byE (l : List Du) (t dl : Int) : Int :=
  if l.length = 0 then 8 else if 500 < l.length then 2 else if firstAt (duE l) l.length ≠ 0 then 1 else if ¬ ((0 ≤ t ∧ t ≤ 4000) ∧ (0 ≤ dl ∧ dl ≤ 10000)) then 1 else 0
def dueN (x : Du) (t dl : Int) : Int := min x.day (if x.km = 1000000000 then 1000000 else if x.km < 0 then t else if 0 < dl then t + x.km.tdiv dl else 1000000)
def byB (l : List Du) (t dl : Int) : Nat → List UInt8 × Int
  | 0 => ([], 0)
  | i + 1 => if i = 0 ∨ dueN (l.getD i du0) t dl < (byB l t dl i).2 then ((l.getD i du0).kind, dueN (l.getD i du0) t dl) else byB l t dl i
theorem by_zero {l : List Du} {t dl : Int} (h : byE l t dl = 0) : 0 < l.length ∧ l.length ≤ 500 ∧ (∀ i, i < l.length → duK (l.getD i du0)) ∧ (0 ≤ t ∧ t ≤ 4000) ∧ (0 ≤ dl ∧ dl ≤ 10000) := by
  unfold byE at h
  split at h
  · cases h
  split at h
  · cases h
  split at h
  · cases h
  split at h
  · cases h
  rename_i h1 h2 h3 h4
  refine ⟨by omega, by omega, fun i hi => ?_, by omega, by omega⟩
  have := firstAt_all (by simpa using h3) i hi
  unfold duE at this
  unfold duK
  grind
theorem tdiv_bd {a b : Int} (h0 : 0 ≤ a) (h1 : 0 < b) : 0 ≤ a.tdiv b ∧ a.tdiv b ≤ a := by
  have := nextB h0 (show 1 ≤ b by omega)
  omega
-- shift.dueDay
theorem s125 (x : Du) (t dl : Int) (hx : duK x) (ht : 0 ≤ t ∧ t ≤ 4000) : FSpec Tryd.prog 125 [.agg ((duF x).map .d), .d (.int .i64 t), .d (.int .i64 dl)] [] (fun y r => y = .d (.int .i64 (dueN x t dl)) ∧ r = []) := by
  unfold duK at hx
  have htd : 0 ≤ x.km → 0 < dl → 0 ≤ x.km.tdiv dl ∧ x.km.tdiv dl ≤ x.km := fun h1 h2 => tdiv_bd h1 h2
  refine spec_of hT (C := []) Tryd.func125 rfl Tryd.call125 rfl rfl rfl ?_
  conv => whnf
  repeat' (first
    | (have htd2 := htd (by omega) (by omega); refine And.intro (by omega) ?_; (conv => whnf); refine And.intro (by unfold inI64; omega) ?_; conv => whnf)
    | (refine br_intro (fun hb => ?_) (fun hb => ?_) <;> (try simp only [decide_eq_true_eq, decide_eq_false_iff_not, Bool.not_eq_true', Bool.not_eq_false', Bool.and_eq_true, Bool.or_eq_true, beq_iff_eq, not_and, Int.not_le, Int.not_lt, Int.toNat_natCast, beq_eq_false_iff_ne, ne_eq, eq_self, not_true_eq_false, not_false_eq_true] at hb) <;> (conv => whnf))
    | omega
    | (refine And.intro ?_ ?_; ((try dsimp only); first | omega | (refine ⟨by omega, by omega, Int.le_trans (Int.mul_le_mul_of_nonneg_right (Int.ofNat_le.2 (Nat.le_of_ble_eq_true (rfl : Nat.ble _ 1024 = true))) (by omega)) (by omega), by omega⟩) | (refine Nat.le_trans (Nat.mul_le_mul_left _ (Nat.le_of_ble_eq_true (rfl : Nat.ble _ 1024 = true))) ?_; omega) | (unfold inI64; omega) | (constructor <;> omega) | (simp only [inI64, List.length_cons, List.length_append, List.length_nil, List.length_set] at *; omega) | decide | (unfold inI64; decide)); conv => whnf)
    | omega | decide | assumption)
  all_goals
    refine .ret _ ?_
    conv => whnf
    refine ⟨[], ⟨?_, rfl⟩, trivial⟩
    conv => lhs; whnf
    congr 2
    unfold dueN
    grind
-- ByFault
theorem s60 (l : List Du) (t dl : Int) (hl : l.length ≤ 2^40) : FSpec Tryd.prog 60 [.d (dus l), .d (.int .i64 t), .d (.int .i64 dl)] [] (fun y r => y = .d (.int .i64 (byE l t dl)) ∧ r = []) := by
  refine spec_of hT (C := []) Tryd.func60 rfl Tryd.call60 rfl rfl rfl ?_
  conv => whnf
  repeat' (first
    | (refine br_intro (fun hb => ?_) (fun hb => ?_) <;> (try simp only [decide_eq_true_eq, decide_eq_false_iff_not, Bool.not_eq_true', Bool.not_eq_false', Bool.and_eq_true, Bool.or_eq_true, beq_iff_eq, not_and, Int.not_le, Int.not_lt, Int.toNat_natCast, beq_eq_false_iff_ne, ne_eq, eq_self, not_true_eq_false, not_false_eq_true] at hb) <;> (conv => whnf))
    | omega
    | (refine And.intro ?_ ?_; ((try dsimp only); first | omega | (refine ⟨by omega, by omega, Int.le_trans (Int.mul_le_mul_of_nonneg_right (Int.ofNat_le.2 (Nat.le_of_ble_eq_true (rfl : Nat.ble _ 1024 = true))) (by omega)) (by omega), by omega⟩) | (refine Nat.le_trans (Nat.mul_le_mul_left _ (Nat.le_of_ble_eq_true (rfl : Nat.ble _ 1024 = true))) ?_; omega) | (unfold inI64; omega) | (constructor <;> omega) | (simp only [inI64, List.length_cons, List.length_append, List.length_nil, List.length_set] at *; omega) | decide | (unfold inI64; decide)); conv => whnf)
    | omega | decide | assumption)
  · refine .ret _ ?_
    conv => whnf
    refine ⟨[], ⟨?_, rfl⟩, trivial⟩
    conv => lhs; whnf
    congr 2; unfold byE; rw [if_pos (by omega)]
  · refine .ret _ ?_
    conv => whnf
    refine ⟨[], ⟨?_, rfl⟩, trivial⟩
    conv => lhs; whnf
    congr 2; unfold byE; rw [if_neg (by omega), if_pos (by omega)]
  have hE : byE l t dl = if firstAt (duE l) l.length ≠ 0 then 1 else if ¬ ((0 ≤ t ∧ t ≤ 4000) ∧ (0 ≤ dl ∧ dl ≤ 10000)) then 1 else 0 := by unfold byE; rw [if_neg (by omega), if_neg (by omega)]
  rw [hE]
  refine LoopX.rule hT (C := []) (ι := Nat) (fun i => i ≤ l.length ∧ ∀ j, j < i → duE l j = 0) (fun i => mkSt [(1, .d (.int .i64 t)), (2, .d (.int .i64 dl)), (17, .d (dus l)), (18, .d (.int .i64 l.length)), (19, .d (.int .i64 i))] []) (fun i => l.length - i) 0 ⟨by omega, by omega⟩ (by refine Entails.mk' [] rfl rfl ?_ ?_ <;> repeat' (first | exact True.intro | exact SV.le_refl _ | exact Res.le_refl _ | exact SV.le_int (by omega) | exact SV.le_any _ | refine And.intro ?_ ?_)) ?_
  rintro i ⟨p1, p2⟩
  have hbad : i < l.length → duE l i = 1 → firstAt (duE l) l.length = 1 := fun h h1 => firstAt_eq h p2 (by decide) h1
  conv => whnf
  repeat' (first
    | (refine CallX.exact (s109 _ _ _) rfl rfl ?_; rotate_right; conv => whnf)
    | (refine br_intro (fun hb => ?_) (fun hb => ?_) <;> (try simp only [decide_eq_true_eq, decide_eq_false_iff_not, Bool.not_eq_true', Bool.not_eq_false', Bool.and_eq_true, Bool.or_eq_true, beq_iff_eq, not_and, Int.not_le, Int.not_lt, Int.toNat_natCast, beq_eq_false_iff_ne, ne_eq, eq_self, not_true_eq_false, not_false_eq_true] at hb) <;> (conv => whnf))
    | omega
    | (refine And.intro ?_ ?_; ((try dsimp only); first | omega | (refine ⟨by omega, by omega, Int.le_trans (Int.mul_le_mul_of_nonneg_right (Int.ofNat_le.2 (Nat.le_of_ble_eq_true (rfl : Nat.ble _ 1024 = true))) (by omega)) (by omega), by omega⟩) | (refine Nat.le_trans (Nat.mul_le_mul_left _ (Nat.le_of_ble_eq_true (rfl : Nat.ble _ 1024 = true))) ?_; omega) | (unfold inI64; omega) | (constructor <;> omega) | (simp only [inI64, List.length_cons, List.length_append, List.length_nil, List.length_set] at *; omega) | decide | (unfold inI64; decide)); conv => whnf)
    | omega | decide | assumption)
  all_goals first
    | (exact ⟨i + 1, ⟨by omega, first_step p2 (by clear p2 hbad; unfold duE; grind)⟩, by omega, (by refine Entails.mk' [] rfl rfl ?_ ?_ <;> repeat' (first | exact True.intro | exact SV.le_refl _ | exact Res.le_refl _ | exact SV.le_int (by omega) | exact SV.le_any _ | refine And.intro ?_ ?_))⟩)
    | (refine .ret _ ?_
       conv => whnf
       refine ⟨[], ⟨?_, rfl⟩, trivial⟩
       conv => lhs; whnf
       congr 2
       first
         | (rw [hbad (by omega) (by clear p2 hbad; unfold duE; grind)]; rfl)
         | (have : i = l.length := by omega
            subst this
            rw [firstAt_zero p2]
            clear p2 hbad
            grind))
-- ByOf
theorem s61 (l : List Du) (t dl : Int) (hE : byE l t dl = 0) : FSpec Tryd.prog 61 [.d (dus l), .d (.int .i64 t), .d (.int .i64 dl)] [] (fun y r => y = .tup [.d (.str (byB l t dl l.length).1), .d (.int .i64 (byB l t dl l.length).2)] ∧ r = []) := by
  obtain ⟨b0, b1, b2, b3, b4⟩ := by_zero hE
  refine spec_of hT (C := []) Tryd.func61 rfl Tryd.call61 rfl rfl rfl ?_
  conv => whnf
  refine LoopX.rule hT (C := []) (ι := Nat) (fun i => i ≤ l.length) (fun i => mkSt [(1, .d (.int .i64 t)), (2, .d (.int .i64 dl)), (8, .d (.str (byB l t dl i).1)), (9, .d (.int .i64 (byB l t dl i).2)), (13, .d (dus l)), (14, .d (.int .i64 l.length)), (15, .d (.int .i64 i))] []) (fun i => l.length - i) 0 (by omega) (by refine Entails.mk' [] rfl rfl ?_ ?_ <;> repeat' (first | exact True.intro | exact SV.le_refl _ | exact Res.le_refl _ | exact SV.le_int (by omega) | exact SV.le_any _ | refine And.intro ?_ ?_)) ?_
  rintro i p1
  have e1 : (i : Int).toNat = i := Int.toNat_natCast i
  have hx : (i : Int) < l.length → duK (l.getD (i : Int).toNat du0) := fun h => b2 _ (by omega)
  unfold duK at hx
  have htd : 0 ≤ (l.getD (i : Int).toNat du0).km → 0 < dl → 0 ≤ (l.getD (i : Int).toNat du0).km.tdiv dl ∧ (l.getD (i : Int).toNat du0).km.tdiv dl ≤ (l.getD (i : Int).toNat du0).km := fun h1 h2 => tdiv_bd h1 h2
  have htake : i = 0 ∨ dueN (l.getD i du0) t dl < (byB l t dl i).2 → byB l t dl (i + 1) = ((l.getD i du0).kind, dueN (l.getD i du0) t dl) := fun h => by rw [byB, if_pos h]
  have hleave : ¬ (i = 0 ∨ dueN (l.getD i du0) t dl < (byB l t dl i).2) → byB l t dl (i + 1) = byB l t dl i := fun h => by rw [byB, if_neg h]
  conv => whnf
  repeat' (first
    | (refine And.intro (by have h2 := htd (by rw [e1]; omega) (by omega); have h3 := hx (by omega); rw [e1] at h2 h3 ⊢; unfold inI64; omega) ?_; conv => whnf)
    | (refine br_intro (fun hb => ?_) (fun hb => ?_) <;> (try simp only [decide_eq_true_eq, decide_eq_false_iff_not, Bool.not_eq_true', Bool.not_eq_false', Bool.and_eq_true, Bool.or_eq_true, beq_iff_eq, not_and, Int.not_le, Int.not_lt, Int.toNat_natCast, beq_eq_false_iff_ne, ne_eq, eq_self, not_true_eq_false, not_false_eq_true] at hb) <;> (conv => whnf))
    | omega
    | (refine And.intro ?_ ?_; ((try dsimp only); first | omega | (refine ⟨by omega, by omega, Int.le_trans (Int.mul_le_mul_of_nonneg_right (Int.ofNat_le.2 (Nat.le_of_ble_eq_true (rfl : Nat.ble _ 1024 = true))) (by omega)) (by omega), by omega⟩) | (refine Nat.le_trans (Nat.mul_le_mul_left _ (Nat.le_of_ble_eq_true (rfl : Nat.ble _ 1024 = true))) ?_; omega) | (unfold inI64; omega) | (constructor <;> omega) | (simp only [inI64, List.length_cons, List.length_append, List.length_nil, List.length_set] at *; omega) | decide | (unfold inI64; decide)); conv => whnf)
    | omega | decide | assumption)
  all_goals try
    have hx' := hx (by omega)
    rw [e1] at hx'
    first
      | (refine ⟨i + 1, by omega, by omega, ?_⟩
         rw [htake (by first | exact Or.inl (by omega) | exact Or.inr (by unfold dueN; clear htake hleave b2 hE hx htd; grind))]
         exact (by refine Entails.mk' [] rfl rfl ?_ ?_ <;> repeat' (first | exact True.intro | exact SV.le_refl _ | exact Res.le_refl _ | (exact SV.le_int (by rw [e1]; unfold dueN; clear htake hleave b2 hE hx htd; grind)) | exact SV.le_int (by omega) | exact SV.le_any _ | refine And.intro ?_ ?_)))
      | (refine ⟨i + 1, by omega, by omega, ?_⟩
         rw [hleave (fun q => by rcases q with q | q <;> first | omega | (unfold dueN at q; clear htake hleave b2 hE hx htd; grind))]
         exact (by refine Entails.mk' [] rfl rfl ?_ ?_ <;> repeat' (first | exact True.intro | exact SV.le_refl _ | exact Res.le_refl _ | exact SV.le_int (by omega) | exact SV.le_any _ | refine And.intro ?_ ?_)))
  have hi : i = l.length := by omega
  subst hi
  refine .ret _ ?_
  conv => whnf
  refine ⟨[], ⟨congrArg SV.tup ?_, rfl⟩, trivial⟩
  repeat' (refine cons_eq ?_ ?_)
  all_goals (conv => lhs; whnf)
  all_goals try (with_reducible rfl)
end Go.Proofs.YtellmmmohdjpeaaDoor
set_option maxRecDepth 20000
namespace Go.Proofs.YtellmmmohdjpeaaDoor
open Go Go.Eng
def byR (l : List Du) (t dl : Int) : SV := .tup [.d (.str (if byE l t dl = 0 then (byB l t dl l.length).1 else [])), .d (.int .i64 (if byE l t dl = 0 then (byB l t dl l.length).2 else 0)), .d (.int .i64 (byE l t dl))]
theorem byR_bad {l : List Du} {t dl e : Int} (h : byE l t dl = e) (h1 : e ≠ 0) : byR l t dl = .tup [.d (.str []), .d (.int .i64 0), .d (.int .i64 e)] := by
  unfold byR; rw [h, if_neg h1, if_neg h1]
theorem byR_fine {l : List Du} {t dl : Int} (h : byE l t dl = 0) : byR l t dl = .tup [.d (.str (byB l t dl l.length).1), .d (.int .i64 (byB l t dl l.length).2), .d (.int .i64 0)] := by
  unfold byR; rw [h, if_pos rfl, if_pos rfl]
-- shift.By
theorem s59 (l : List Du) (t dl : Int) (hl : l.length ≤ 2^40) : FSpec Tryd.prog 59 [.d (dus l), .d (.int .i64 t), .d (.int .i64 dl)] [] (fun y r => y = byR l t dl ∧ r = []) := by
  refine spec_of hT (C := []) Tryd.func59 rfl Tryd.call59 rfl rfl rfl ?_
  conv => whnf
  repeat' (first
    | (refine br_intro (fun hb => ?_) (fun hb => ?_) <;> (try simp only [decide_eq_true_eq, decide_eq_false_iff_not, Bool.not_eq_true', Bool.not_eq_false', Bool.and_eq_true, Bool.or_eq_true, beq_iff_eq, not_and, Int.not_le, Int.not_lt, Int.toNat_natCast, beq_eq_false_iff_ne, ne_eq, eq_self, not_true_eq_false, not_false_eq_true] at hb) <;> (conv => whnf))
    | (refine RegX.rule (id := 13) hT rfl [] [(0, []), (1, []), (2, []), (3, []), (4, [0, 1, 2, 3]), (5, [0, 1, 2, 3]), (6, [0, 1, 2, 3]), (7, [0, 1, 2, 3, 4, 5, 6]), (8, [0, 1, 2, 3, 4, 5, 6, 7]), (9, [0, 1, 2, 3]), (10, []), (11, [])] (by decide +kernel) ?_; conv => whnf)
    | omega
    | (refine And.intro ?_ ?_; ((try dsimp only); first | omega | (refine ⟨by omega, by omega, Int.le_trans (Int.mul_le_mul_of_nonneg_right (Int.ofNat_le.2 (Nat.le_of_ble_eq_true (rfl : Nat.ble _ 1024 = true))) (by omega)) (by omega), by omega⟩) | (refine Nat.le_trans (Nat.mul_le_mul_left _ (Nat.le_of_ble_eq_true (rfl : Nat.ble _ 1024 = true))) ?_; omega) | (unfold inI64; omega) | (constructor <;> omega) | (simp only [inI64, List.length_cons, List.length_append, List.length_nil, List.length_set] at *; omega) | decide | (unfold inI64; decide)); conv => whnf)
    | omega | decide | assumption)
  · have hE : byE l t dl = 8 := by unfold byE; rw [if_pos (by omega)]
    rw [byR_bad hE (by decide)]
    refine .ret _ ?_
    conv => whnf
    refine ⟨[], ⟨congrArg SV.tup ?_, rfl⟩, trivial⟩
    repeat' (refine cons_eq ?_ ?_)
    all_goals (conv => lhs; whnf)
    all_goals try (with_reducible rfl)
    all_goals rfl
  · have hE : byE l t dl = 2 := by unfold byE; rw [if_neg (by omega), if_pos (by omega)]
    rw [byR_bad hE (by decide)]
    refine .ret _ ?_
    conv => whnf
    refine ⟨[], ⟨congrArg SV.tup ?_, rfl⟩, trivial⟩
    repeat' (refine cons_eq ?_ ?_)
    all_goals (conv => lhs; whnf)
    all_goals try (with_reducible rfl)
    all_goals rfl
  have hE : byE l t dl = if firstAt (duE l) l.length ≠ 0 then 1 else if ¬ ((0 ≤ t ∧ t ≤ 4000) ∧ (0 ≤ dl ∧ dl ≤ 10000)) then 1 else 0 := by unfold byE; rw [if_neg (by omega), if_neg (by omega)]
  refine LoopX.rule hT (C := []) (ι := Nat) (fun i => i ≤ l.length ∧ ∀ j, j < i → duE l j = 0) (fun i => mkSt [(0, .d (dus l)), (1, .d (.int .i64 t)), (2, .d (.int .i64 dl)), (24, .d (dus l)), (25, .d (.int .i64 l.length)), (26, .d (.int .i64 i))] []) (fun i => l.length - i) 0 ⟨by omega, by omega⟩ (by refine Entails.mk' [] rfl rfl ?_ ?_ <;> repeat' (first | exact True.intro | exact SV.le_refl _ | exact Res.le_refl _ | exact SV.le_int (by omega) | exact SV.le_any _ | refine And.intro ?_ ?_)) ?_
  rintro i ⟨p1, p2⟩
  have hbad : i < l.length → duE l i = 1 → byE l t dl = 1 := fun h h1 => by rw [hE, firstAt_eq h p2 (by decide) h1]; rfl
  have hz : (l.length : Int) ≤ i → ∀ k, k < l.length → duK (l.getD k du0) := fun h k hk => by
    have hd := p2 k (by omega)
    unfold duE at hd
    unfold duK
    clear p2 hbad hE
    grind
  have hz0 : (l.length : Int) ≤ i → (0 ≤ t ∧ t ≤ 4000) → duK (l.getD (Int.toNat 0) du0) := fun h _ => hz h 0 (by omega)
  have hfl : (l.length : Int) ≤ i → firstAt (duE l) l.length = 0 := fun h => firstAt_zero (fun j hj => p2 j (by omega))
  conv => whnf
  repeat' (first
    | (refine CallX.exact (s119 _ _ _) rfl rfl ?_; rotate_right; conv => whnf)
    | (refine CallX.exact (s125 (l.getD (Int.toNat 0) du0) t dl (hz0 (by omega) (by omega)) (by omega)) rfl rfl ?_; rotate_right; conv => whnf)
    | (refine br_intro (fun hb => ?_) (fun hb => ?_) <;> (try simp only [decide_eq_true_eq, decide_eq_false_iff_not, Bool.not_eq_true', Bool.not_eq_false', Bool.and_eq_true, Bool.or_eq_true, beq_iff_eq, not_and, Int.not_le, Int.not_lt, Int.toNat_natCast, beq_eq_false_iff_ne, ne_eq, eq_self, not_true_eq_false, not_false_eq_true] at hb) <;> (conv => whnf))
    | (refine RegX.rule (id := 13) hT rfl [] [(0, []), (1, []), (2, []), (3, []), (4, [0, 1, 2, 3]), (5, [0, 1, 2, 3]), (6, [0, 1, 2, 3]), (7, [0, 1, 2, 3, 4, 5, 6]), (8, [0, 1, 2, 3, 4, 5, 6, 7]), (9, [0, 1, 2, 3]), (10, []), (11, [])] (by decide +kernel) ?_; conv => whnf)
    | omega
    | (refine And.intro ?_ ?_; ((try dsimp only); first | omega | (refine ⟨by omega, by omega, Int.le_trans (Int.mul_le_mul_of_nonneg_right (Int.ofNat_le.2 (Nat.le_of_ble_eq_true (rfl : Nat.ble _ 1024 = true))) (by omega)) (by omega), by omega⟩) | (refine Nat.le_trans (Nat.mul_le_mul_left _ (Nat.le_of_ble_eq_true (rfl : Nat.ble _ 1024 = true))) ?_; omega) | (unfold inI64; omega) | (constructor <;> omega) | (simp only [inI64, List.length_cons, List.length_append, List.length_nil, List.length_set] at *; omega) | decide | (unfold inI64; decide)); conv => whnf)
    | omega | decide | assumption)
  all_goals try first
    | (exact ⟨i + 1, ⟨by omega, first_step p2 (by clear p2 hbad hE hz hz0 hfl; unfold duE; grind)⟩, by omega, (by refine Entails.mk' [] rfl rfl ?_ ?_ <;> repeat' (first | exact True.intro | exact SV.le_refl _ | exact Res.le_refl _ | exact SV.le_int (by omega) | exact SV.le_any _ | refine And.intro ?_ ?_))⟩)
    | (rw [byR_bad (hbad (by omega) (by clear p2 hbad hE hz hz0 hfl; unfold duE; grind)) (by decide)]
       refine .ret _ ?_
       conv => whnf
       refine ⟨[], ⟨congrArg SV.tup ?_, rfl⟩, trivial⟩
       repeat' (refine cons_eq ?_ ?_)
       all_goals (conv => lhs; whnf)
       all_goals try (with_reducible rfl)
       all_goals rfl)
    | (rw [byR_bad (show byE l t dl = 1 by rw [hE, hfl (by omega), if_neg (by simp), if_pos (by omega)]) (by decide)]
       refine .ret _ ?_
       conv => whnf
       refine ⟨[], ⟨congrArg SV.tup ?_, rfl⟩, trivial⟩
       repeat' (refine cons_eq ?_ ?_)
       all_goals (conv => lhs; whnf)
       all_goals try (with_reducible rfl)
       all_goals rfl)
  have b2 := hz (by omega)
  have hEz : byE l t dl = 0 := by rw [hE, hfl (by omega), if_neg (by simp), if_neg (by omega)]
  clear hz hz0 hfl hbad p2 hE
  rw [byR_fine hEz]
  have hb1 : byB l t dl (0 + 1) = ((l.getD 0 du0).kind, dueN (l.getD 0 du0) t dl) := by rw [byB, if_pos (.inl rfl)]
  refine LoopX.rule hT (C := []) (ι := Nat) (fun k => k + 1 ≤ l.length) (fun k => mkSt [(1, .d (.int .i64 t)), (2, .d (.int .i64 dl)), (11, .d (.str (byB l t dl (k + 1)).1)), (12, .d (.int .i64 (byB l t dl (k + 1)).2)), (60, .d (dus (l.drop 1))), (61, .d (.int .i64 (l.drop 1).length)), (62, .d (.int .i64 k))] []) (fun k => l.length - k) 0 (by omega) ?_ ?_
  · rw [hb1]
    refine Entails.mk' [] rfl rfl ⟨SV.le_refl _, SV.le_refl _, SV.le_refl _, SV.le_refl _, SV.le_drop (by rw [List.length_drop]; omega), SV.le_int (by rw [List.length_drop]; omega), SV.le_refl _, trivial⟩ trivial
  rintro k p1
  have hld : (l.drop 1).length = l.length - 1 := List.length_drop
  rw [hld]
  have e1 : (k : Int).toNat = k := Int.toNat_natCast k
  have hgd : (l.drop 1).getD k du0 = l.getD (k + 1) du0 := by rw [List.getD_eq_getElem?_getD, List.getD_eq_getElem?_getD, List.getElem?_drop, Nat.add_comm]
  have hx : (k : Int) < (l.length - 1 : Nat) → duK ((l.drop 1).getD k du0) := fun h => by rw [hgd]; exact b2 _ (by omega)
  have htake : dueN ((l.drop 1).getD k du0) t dl < (byB l t dl (k + 1)).2 → byB l t dl (k + 1 + 1) = (((l.drop 1).getD k du0).kind, dueN ((l.drop 1).getD k du0) t dl) := fun h => by rw [hgd] at h ⊢; rw [byB, if_pos (.inr h)]
  have hleave : ¬ dueN ((l.drop 1).getD k du0) t dl < (byB l t dl (k + 1)).2 → byB l t dl (k + 1 + 1) = byB l t dl (k + 1) := fun h => by rw [hgd] at h; rw [byB, if_neg (by omega)]
  conv => whnf
  repeat' (first
    | (refine CallX.exact (s125 ((l.drop 1).getD k du0) t dl (hx (by omega)) (by omega)) rfl rfl ?_; rotate_right; conv => whnf)
    | (refine br_intro (fun hb => ?_) (fun hb => ?_) <;> (try simp only [decide_eq_true_eq, decide_eq_false_iff_not, Bool.not_eq_true', Bool.not_eq_false', Bool.and_eq_true, Bool.or_eq_true, beq_iff_eq, not_and, Int.not_le, Int.not_lt, Int.toNat_natCast, beq_eq_false_iff_ne, ne_eq, eq_self, not_true_eq_false, not_false_eq_true] at hb) <;> (conv => whnf))
    | (refine RegX.rule (id := 13) hT rfl [] [(0, []), (1, []), (2, []), (3, []), (4, [0, 1, 2, 3]), (5, [0, 1, 2, 3]), (6, [0, 1, 2, 3]), (7, [0, 1, 2, 3, 4, 5, 6]), (8, [0, 1, 2, 3, 4, 5, 6, 7]), (9, [0, 1, 2, 3]), (10, []), (11, [])] (by decide +kernel) ?_; conv => whnf)
    | omega
    | (refine And.intro ?_ ?_; ((try dsimp only); first | omega | (refine ⟨by omega, by omega, Int.le_trans (Int.mul_le_mul_of_nonneg_right (Int.ofNat_le.2 (Nat.le_of_ble_eq_true (rfl : Nat.ble _ 1024 = true))) (by omega)) (by omega), by omega⟩) | (refine Nat.le_trans (Nat.mul_le_mul_left _ (Nat.le_of_ble_eq_true (rfl : Nat.ble _ 1024 = true))) ?_; omega) | (unfold inI64; omega) | (constructor <;> omega) | (simp only [inI64, List.length_cons, List.length_append, List.length_nil, List.length_set] at *; omega) | decide | (unfold inI64; decide)); conv => whnf)
    | omega | decide | assumption)
  all_goals first
    | (refine ⟨k + 1, by omega, by omega, ?_⟩
       rw [htake (by omega)]
       exact (by refine Entails.mk' [] rfl rfl ?_ ?_ <;> repeat' (first | exact True.intro | exact SV.le_refl _ | exact Res.le_refl _ | exact SV.le_int (by omega) | exact SV.le_any _ | refine And.intro ?_ ?_)))
    | (refine ⟨k + 1, by omega, by omega, ?_⟩
       rw [hleave (by omega)]
       exact (by refine Entails.mk' [] rfl rfl ?_ ?_ <;> repeat' (first | exact True.intro | exact SV.le_refl _ | exact Res.le_refl _ | exact SV.le_int (by omega) | exact SV.le_any _ | refine And.intro ?_ ?_)))
    | (have : k + 1 = l.length := by omega
       rw [this]
       refine .ret _ ?_
       conv => whnf
       refine ⟨[], ⟨congrArg SV.tup ?_, rfl⟩, trivial⟩
       repeat' (refine cons_eq ?_ ?_)
       all_goals (conv => lhs; whnf)
       all_goals try (with_reducible rfl)
       all_goals rfl)
end Go.Proofs.YtellmmmohdjpeaaDoor
set_option maxRecDepth 20000
namespace Go.Proofs.YtellmmmohdjpeaaDoor
open Go Go.Eng
theorem SV.le_rows3 {m : Nat} {h : Nat → List DV} {x0 x1 x2 : Ivl} (hm : m ≤ 3) (h0 : h 0 = ivF x0) (h1 : h 1 = ivF x1) (h2 : h 2 = ivF x2) :
    SV.le (.d (.ro 3 m h)) (.d (ivls ([x0, x1, x2].take m))) :=
  SV.le_ro (by rw [List.length_take]; show m = min m 3; omega) (fun i hi => by
    simp only [rowF]
    rw [List.getD_eq_getElem?_getD, List.getElem?_take_of_lt (by omega)]
    match i, (show i < 3 by omega) with
    | 0, _ => exact h0
    | 1, _ => exact h1
    | 2, _ => exact h2)
theorem allK_take' {α : Type} {K : α → Prop} {l : List α} {k m : Nat} (h : allK K k l) : allK K k (l.take m) :=
  ⟨by rw [List.length_take]; have := h.1; omega, fun x hx => h.2 x (List.mem_of_mem_take hx)⟩
def ivG (x : Ivl) : Prop := x.kind.length ≤ 8
-- Intervals
theorem s49 (n : Nat) (L : Nat → Int) (hL : Rok n L) (a : Int) (h0 : 0 ≤ a) (ha : a ≤ 2^38) :
    FSpec Tryd.prog 49 [.ptr 1000000 0] [(1000000, strm n L a)] (fun y r => (∃ l, allK ivG 3 l ∧ y = .d (ivls l)) ∧ Moved n L a 20 r) := by
  refine spec_of hT (C := [16]) Tryd.func49 rfl Tryd.call49 rfl rfl rfl ?_
  conv => whnf
  repeat' (first
    | (refine CallX.of (s33 n L hL _ ?_ ?_ [0, 90000] ?_ ?_) [(1000000, 1000000)] rfl ⟨SV.le_refl _, SV.le_lit rfl rfl, trivial⟩ ⟨Res.le_refl _, trivial⟩ rfl rfl ?_; rotate_right; rintro x rout ⟨⟨u1, hu1, rfl⟩, ⟨c, c1, c2, rfl⟩⟩; refine ⟨rfl, ?_⟩; conv => whnf)
    | (refine CallX.of (s33 n L hL _ ?_ ?_ [0, 100] ?_ ?_) [(1000000, 1000000)] rfl ⟨SV.le_refl _, SV.le_lit rfl rfl, trivial⟩ ⟨Res.le_refl _, trivial⟩ rfl rfl ?_; rotate_right; rintro x rout ⟨⟨u2, hu2, rfl⟩, ⟨c, c1, c2, rfl⟩⟩; refine ⟨rfl, ?_⟩; conv => whnf)
    | (refine CallX.of (s33 n L hL _ ?_ ?_ [0, 30] ?_ ?_) [(1000000, 1000000)] rfl ⟨SV.le_refl _, SV.le_lit rfl rfl, trivial⟩ ⟨Res.le_refl _, trivial⟩ rfl rfl ?_; rotate_right; rintro x rout ⟨⟨u3, hu3, rfl⟩, ⟨c, c1, c2, rfl⟩⟩; refine ⟨rfl, ?_⟩; conv => whnf)
    | (refine CallX.of (s84 n L hL _ ?_ ?_ _ ?_) [(1000000, 1000000)] rfl ⟨SV.le_refl _, SV.le_refl _, trivial⟩ ⟨Res.le_refl _, trivial⟩ rfl rfl ?_; rotate_right; rintro x rout ⟨⟨f, rfl⟩, ⟨c, c1, c2, rfl⟩⟩; refine ⟨rfl, ?_⟩; conv => whnf)
    | (refine CallX.of (s15 n L hL _ ?_ ?_ [[], [98, 101, 108, 116], [111, 105, 108]] ?_ ?_) [(1000000, 1000000)] rfl ⟨SV.le_refl _, SV.le_lit rfl rfl, trivial⟩ ⟨Res.le_refl _, trivial⟩ rfl rfl ?_; rotate_right; rintro x rout ⟨⟨u4, hu4, rfl⟩, ⟨c, c1, c2, rfl⟩⟩; refine ⟨rfl, ?_⟩; conv => whnf)
    | (refine CallX.of (s104 n L hL _ ?_ ?_ 0 1000000 ?_ ?_ ?_) [(1000000, 1000000)] rfl ⟨SV.le_refl _, SV.le_refl _, SV.le_refl _, trivial⟩ ⟨Res.le_refl _, trivial⟩ rfl rfl ?_; rotate_right; rintro x rout ⟨⟨u5, hk1, hk2, rfl⟩, ⟨c, c1, c2, rfl⟩⟩; refine ⟨rfl, ?_⟩; conv => whnf)
    | (refine CallX.of (s104 n L hL _ ?_ ?_ 0 100000 ?_ ?_ ?_) [(1000000, 1000000)] rfl ⟨SV.le_refl _, SV.le_refl _, SV.le_refl _, trivial⟩ ⟨Res.le_refl _, trivial⟩ rfl rfl ?_; rotate_right; rintro x rout ⟨⟨u6, hk3, hk4, rfl⟩, ⟨c, c1, c2, rfl⟩⟩; refine ⟨rfl, ?_⟩; conv => whnf)
    | (refine CallX.of (s64 n L hL _ ?_ ?_ 0 3 ?_ ?_ ?_ ?_) [(1000000, 1000000)] rfl ⟨SV.le_refl _, SV.le_refl _, SV.le_refl _, trivial⟩ ⟨Res.le_refl _, trivial⟩ rfl rfl ?_; rotate_right; rintro x rout ⟨⟨u7, hm1, hm2, rfl⟩, ⟨c, c1, c2, rfl⟩⟩; refine ⟨rfl, ?_⟩; conv => whnf)
    | (refine SliceX.freeze 203 3 _ _ rfl ?_; conv => whnf)
    | (refine br_intro (fun hb => ?_) (fun hb => ?_) <;> (try simp only [decide_eq_true_eq, decide_eq_false_iff_not, Bool.not_eq_true', Bool.not_eq_false', Bool.and_eq_true, Bool.or_eq_true, beq_iff_eq, not_and, Int.not_le, Int.not_lt, Int.toNat_natCast, beq_eq_false_iff_ne, ne_eq, eq_self, not_true_eq_false, not_false_eq_true] at hb) <;> (conv => whnf))
    | omega
    | (refine And.intro ?_ ?_; ((try dsimp only); first | omega | (refine ⟨by omega, by omega, Int.le_trans (Int.mul_le_mul_of_nonneg_right (Int.ofNat_le.2 (Nat.le_of_ble_eq_true (rfl : Nat.ble _ 1024 = true))) (by omega)) (by omega), by omega⟩) | (refine Nat.le_trans (Nat.mul_le_mul_left _ (Nat.le_of_ble_eq_true (rfl : Nat.ble _ 1024 = true))) ?_; omega) | (unfold inI64; omega) | (constructor <;> omega) | (simp only [inI64, List.length_cons, List.length_append, List.length_nil, List.length_set] at *; omega) | decide | (unfold inI64; decide)); conv => whnf)
    | omega | decide | assumption)
  all_goals
    refine .weak _ ?_
    (conv => whnf)
    refine ⟨_, [(1000000, strm n L _)], SV.le_rows3 (x0 := ⟨_, _, _⟩) (x1 := ⟨_, _, _⟩) (x2 := ⟨_, _, _⟩) (by omega) (by rfl) (by rfl) (by rfl), ⟨⟨_, allK_take' ⟨Nat.le_refl _, ?_⟩, rfl⟩, _, by omega, by omega, rfl⟩, Res.le_refl _, trivial⟩
    intro x hx
    simp only [List.mem_cons, List.not_mem_nil, or_false] at hx
    rcases hx with rfl | rfl | rfl <;> unfold ivG <;> first | (simp; done) | exact mem_len hu4 rfl
end Go.Proofs.YtellmmmohdjpeaaDoor
set_option maxRecDepth 20000
namespace Go.Proofs.YtellmmmohdjpeaaDoor
open Go Go.Eng
def svG (x : Svc) : Prop := x.v.length ≤ 8 ∧ x.kind.length ≤ 8
-- Services
theorem s50 (n : Nat) (L : Nat → Int) (hL : Rok n L) (a : Int) (h0 : 0 ≤ a) (ha : a ≤ 2^38) :
    FSpec Tryd.prog 50 [.ptr 1000000 0] [(1000000, strm n L a)] (fun y r => (∃ l, allK svG 5 l ∧ y = .d (svcs l)) ∧ Moved n L a 40 r) := by
  refine spec_of hT (C := []) Tryd.func50 rfl Tryd.call50 rfl rfl rfl ?_
  conv => whnf
  repeat' (first
    | (refine CallX.of (s64 n L hL _ ?_ ?_ _ _ ?_ ?_ ?_ ?_) [(1000000, 1000000)] rfl ⟨SV.le_refl _, SV.le_refl _, SV.le_refl _, trivial⟩ ⟨Res.le_refl _, trivial⟩ rfl rfl ?_; rotate_right; rintro x rout ⟨⟨m, hm1, hm2, rfl⟩, ⟨c, c1, c2, rfl⟩⟩; refine ⟨rfl, ?_⟩; conv => whnf)
    | (refine br_intro (fun hb => ?_) (fun hb => ?_) <;> (try simp only [decide_eq_true_eq, decide_eq_false_iff_not, Bool.not_eq_true', Bool.not_eq_false', Bool.and_eq_true, Bool.or_eq_true, beq_iff_eq, not_and, Int.not_le, Int.not_lt, Int.toNat_natCast, beq_eq_false_iff_ne, ne_eq, eq_self, not_true_eq_false, not_false_eq_true] at hb) <;> (conv => whnf))
    | omega
    | (refine And.intro ?_ ?_; ((try dsimp only); first | omega | (refine ⟨by omega, by omega, Int.le_trans (Int.mul_le_mul_of_nonneg_right (Int.ofNat_le.2 (Nat.le_of_ble_eq_true (rfl : Nat.ble _ 1024 = true))) (by omega)) (by omega), by omega⟩) | (refine Nat.le_trans (Nat.mul_le_mul_left _ (Nat.le_of_ble_eq_true (rfl : Nat.ble _ 1024 = true))) ?_; omega) | (unfold inI64; omega) | (constructor <;> omega) | (simp only [inI64, List.length_cons, List.length_append, List.length_nil, List.length_set] at *; omega) | decide | (unfold inI64; decide)); conv => whnf)
    | omega | decide | assumption)
  refine LoopX.rule hT (C := []) (ι := Int × List Svc × Int × Nat) (fun (b, l, D, k) => (c ≤ b ∧ b ≤ c + 4 * k ∧ (k : Int) ≤ m) ∧ (0 ≤ D ∧ D ≤ 40 * k) ∧ allK svG k l)
    (fun (b, l, D, k) => mkSt [(0, .ptr 1000000 0), (3, .buf 3), (4, .d (.int .i64 D)), (7, .d (.int .i64 m)), (8, .d (.int .i64 k))] [(1000000, strm n L b), (3, seqB 90 4 svF sv0 l)])
    (fun (_, _, _, k) => 5 - k) (c, [], 0, 0) ⟨⟨by simp, by simp, by simpa using hm1⟩, ⟨by simp, by simp⟩, ⟨by simp, by simp⟩⟩ ?_ ?_
  · exact (Entails.nil 3 3 90 4 (rowF svF sv0 []) rfl rfl (by decide)).trans (by refine Entails.mk' [(1000000, 1000000), (3, 3)] rfl rfl ?_ ?_ <;> repeat' (first | exact True.intro | exact SV.le_refl _ | exact Res.le_refl _ | exact SV.le_int (by omega) | exact SV.le_any _ | refine And.intro ?_ ?_))
  rintro ⟨b, l, D, k⟩ ⟨⟨p1, p2, p3⟩, pd, q1⟩
  have hl1 := q1.1
  have hl7 : allK svG 5 l := allK_le q1 (by omega)
  conv => whnf
  repeat' (first
    | (refine CallX.of (s84 n L hL _ ?_ ?_ _ ?_) [(1000000, 1000000)] rfl ⟨SV.le_refl _, SV.le_refl _, trivial⟩ ⟨Res.le_refl _, trivial⟩ rfl rfl ?_; rotate_right; rintro x rout ⟨⟨f, rfl⟩, ⟨c, c1, c2, rfl⟩⟩; refine ⟨rfl, ?_⟩; conv => whnf)
    | (refine CallX.of (s86 n L hL _ ?_ ?_ _ ?_) [(1000000, 1000000)] rfl ⟨SV.le_refl _, SV.le_refl _, trivial⟩ ⟨Res.le_refl _, trivial⟩ rfl rfl ?_; rotate_right; rintro x rout ⟨⟨j, hj1, hj2, hj3, rfl⟩, ⟨c, c1, c2, rfl⟩⟩; refine ⟨rfl, ?_⟩; conv => whnf)
    | (refine CallX.of (s33 n L hL _ ?_ ?_ [0, 0, 5, 40] ?_ ?_) [(1000000, 1000000)] rfl ⟨SV.le_refl _, SV.le_lit rfl rfl, trivial⟩ ⟨Res.le_refl _, trivial⟩ rfl rfl ?_; rotate_right; rintro x rout ⟨⟨u1, hu1, rfl⟩, ⟨c, c1, c2, rfl⟩⟩; have hw1 : 0 ≤ u1 ∧ u1 ≤ 40 := (by simp only [List.mem_cons, List.not_mem_nil, or_false] at hu1; omega); refine ⟨rfl, ?_⟩; conv => whnf)
    | (refine CallX.of (s33 n L hL _ ?_ ?_ [0, 500, 5000] ?_ ?_) [(1000000, 1000000)] rfl ⟨SV.le_refl _, SV.le_lit rfl rfl, trivial⟩ ⟨Res.le_refl _, trivial⟩ rfl rfl ?_; rotate_right; rintro x rout ⟨⟨u2, hu2, rfl⟩, ⟨c, c1, c2, rfl⟩⟩; refine ⟨rfl, ?_⟩; conv => whnf)
    | (refine CallX.of (s104 n L hL _ ?_ ?_ 0 4000 ?_ ?_ ?_) [(1000000, 1000000)] rfl ⟨SV.le_refl _, SV.le_refl _, SV.le_refl _, trivial⟩ ⟨Res.le_refl _, trivial⟩ rfl rfl ?_; rotate_right; rintro x rout ⟨⟨u5, hk1, hk2, rfl⟩, ⟨c, c1, c2, rfl⟩⟩; refine ⟨rfl, ?_⟩; conv => whnf)
    | (refine CallX.of (s104 n L hL _ ?_ ?_ 0 10000000 ?_ ?_ ?_) [(1000000, 1000000)] rfl ⟨SV.le_refl _, SV.le_refl _, SV.le_refl _, trivial⟩ ⟨Res.le_refl _, trivial⟩ rfl rfl ?_; rotate_right; rintro x rout ⟨⟨u6, hk3, hk4, rfl⟩, ⟨c, c1, c2, rfl⟩⟩; refine ⟨rfl, ?_⟩; conv => whnf)
    | (refine CallX.of (s15 n L hL _ ?_ ?_ [[118, 49], [118, 49], [118, 50]] ?_ ?_) [(1000000, 1000000)] rfl ⟨SV.le_refl _, SV.le_lit rfl rfl, trivial⟩ ⟨Res.le_refl _, trivial⟩ rfl rfl ?_; rotate_right; rintro x rout ⟨⟨u3, hu3, rfl⟩, ⟨c, c1, c2, rfl⟩⟩; refine ⟨rfl, ?_⟩; conv => whnf)
    | (refine CallX.of (s15 n L hL _ ?_ ?_ [[111, 105, 108], [98, 101, 108, 116], [116, 121, 114, 101], [119, 97, 115, 104]] ?_ ?_) [(1000000, 1000000)] rfl ⟨SV.le_refl _, SV.le_lit rfl rfl, trivial⟩ ⟨Res.le_refl _, trivial⟩ rfl rfl ?_; rotate_right; rintro x rout ⟨⟨u4, hu4, rfl⟩, ⟨c, c1, c2, rfl⟩⟩; refine ⟨rfl, ?_⟩; conv => whnf)
    | (refine CallX.of (s15 n L hL _ ?_ ?_ [_, []] (by simp) (by simp)) [(1000000, 1000000)] rfl ⟨SV.le_refl _, SV.le_lit rfl rfl, trivial⟩ ⟨Res.le_refl _, trivial⟩ rfl rfl ?_; rotate_right; rintro x rout ⟨⟨u3, hu3, rfl⟩, ⟨c, c1, c2, rfl⟩⟩; refine ⟨rfl, ?_⟩; conv => whnf)
    | (refine br_intro (fun hb => ?_) (fun hb => ?_) <;> (try simp only [decide_eq_true_eq, decide_eq_false_iff_not, Bool.not_eq_true', Bool.not_eq_false', Bool.and_eq_true, Bool.or_eq_true, beq_iff_eq, not_and, Int.not_le, Int.not_lt, Int.toNat_natCast, beq_eq_false_iff_ne, ne_eq, eq_self, not_true_eq_false, not_false_eq_true] at hb) <;> (conv => whnf))
    | omega
    | (refine And.intro ?_ ?_; ((try dsimp only); first | omega | (refine ⟨by omega, by omega, Int.le_trans (Int.mul_le_mul_of_nonneg_right (Int.ofNat_le.2 (Nat.le_of_ble_eq_true (rfl : Nat.ble _ 1024 = true))) (by omega)) (by omega), by omega⟩) | (refine Nat.le_trans (Nat.mul_le_mul_left _ (Nat.le_of_ble_eq_true (rfl : Nat.ble _ 1024 = true))) ?_; omega) | (unfold inI64; omega) | (constructor <;> omega) | (simp only [inI64, List.length_cons, List.length_append, List.length_nil, List.length_set] at *; omega) | decide | (unfold inI64; decide)); conv => whnf)
    | omega | decide | assumption)
  · refine ⟨(_, _, D + u1, k + 1), ?_, ?_, Entails.mk' [(1000000, 1000000), (3, 28)] rfl rfl ⟨SV.le_refl _, SV.le_refl _, SV.le_refl _, SV.le_refl _, SV.le_refl _, trivial⟩ ⟨Res.le_refl _, Res.le_snocF (x := ⟨_, _, _, _⟩) rfl, trivial⟩⟩
    · exact ⟨⟨by omega, by omega, by omega⟩, ⟨by omega, by omega⟩, allK_snoc q1 (Nat.le_refl _) ⟨mem_len hu3 rfl, mem_len hu4 rfl⟩⟩
    · show 5 - (k + 1) < 5 - k; omega
  · refine .freeze _ 3 90 4 _ _ rfl (.weak _ ?_)
    (conv => whnf)
    have hu3' : u3.length ≤ 8 := by
      have hm := (q1.2 _ (getD_mem (l := l) (i := j.toNat) (x := sv0) (by omega))).1
      simp only [List.mem_cons, List.not_mem_nil, or_false] at hu3
      rcases hu3 with rfl | rfl
      · exact hm
      · simp
    refine ⟨_, [(1000000, strm n L _)], SV.le_upd3 (f := svF) (d := sv0) (l := l) (fun y : Svc => (⟨u3, y.kind, y.day, y.meter⟩ : Svc)) (fun y : Svc => (⟨y.v, y.kind, u5, y.meter⟩ : Svc)) (fun y : Svc => (⟨y.v, y.kind, y.day, u6⟩ : Svc)) (fun _ => rfl) (fun _ => rfl) (fun _ => rfl), ⟨⟨_, ?_, rfl⟩, _, by omega, by omega, rfl⟩, Res.le_refl _, trivial⟩
    exact allK_upd (g := fun y : Svc => (⟨y.v, y.kind, y.day, u6⟩ : Svc)) (allK_upd (g := fun y : Svc => (⟨y.v, y.kind, u5, y.meter⟩ : Svc)) (allK_upd (g := fun y : Svc => (⟨u3, y.kind, y.day, y.meter⟩ : Svc)) hl7 (fun y hy => ⟨hu3', hy.2⟩)) (fun y hy => hy)) (fun y hy => hy)
  all_goals
    refine .freeze _ 3 90 4 _ _ rfl (.weak _ ?_)
    (conv => whnf)
    exact ⟨_, [(1000000, strm n L _)], SV.le_refl _, ⟨⟨l, hl7, rfl⟩, _, by omega, by omega, rfl⟩, Res.le_refl _, trivial⟩
-- DuesOf (the maker's)
theorem s58 (n : Nat) (L : Nat → Int) (hL : Rok n L) (a : Int) (h0 : 0 ≤ a) (ha : a ≤ 2^38) :
    FSpec Tryd.prog 58 [.ptr 1000000 0] [(1000000, strm n L a)] (fun y r => (∃ l, l.length ≤ 3 ∧ y = .d (dus l)) ∧ Moved n L a 20 r) := by
  refine spec_of hT (C := []) Tryd.func58 rfl Tryd.call58 rfl rfl rfl ?_
  conv => whnf
  refine LoopX.rule hT (C := []) (ι := Int × List Du × Nat) (fun (b, l, k) => (a ≤ b ∧ b ≤ a + 3 * k ∧ k ≤ 3) ∧ l.length ≤ k)
    (fun (b, l, k) => mkSt [(0, .ptr 1000000 0), (3, .buf 3), (7, .d (strs [[98, 101, 108, 116], [111, 105, 108], [116, 121, 114, 101]])), (8, .d (.int .i64 3)), (9, .d (.int .i64 k))] [(1000000, strm n L b), (3, seqB 98 3 duF du0 l)])
    (fun (_, _, k) => 3 - k) (a, [], 0) ⟨⟨by simp, by simp, by simp⟩, by simp⟩ ?_ ?_
  · refine (Entails.nil 3 3 98 3 (rowF duF du0 []) rfl rfl (by decide)).trans (Entails.mk' [(1000000, 1000000), (3, 3)] rfl rfl ⟨SV.le_refl _, SV.le_refl _, SV.le_lit rfl rfl, SV.le_refl _, SV.le_refl _, trivial⟩ ⟨Res.le_refl _, Res.le_refl _, trivial⟩)
  rintro ⟨b, l, k⟩ ⟨⟨p1, p2, p3⟩, q1⟩
  conv => whnf
  repeat' (first
    | (refine CallX.of (s84 n L hL _ ?_ ?_ _ ?_) [(1000000, 1000000)] rfl ⟨SV.le_refl _, SV.le_refl _, trivial⟩ ⟨Res.le_refl _, trivial⟩ rfl rfl ?_; rotate_right; rintro x rout ⟨⟨f, rfl⟩, ⟨c, c1, c2, rfl⟩⟩; refine ⟨rfl, ?_⟩; conv => whnf)
    | (refine CallX.of (s86 n L hL _ ?_ ?_ _ ?_) [(1000000, 1000000)] rfl ⟨SV.le_refl _, SV.le_refl _, trivial⟩ ⟨Res.le_refl _, trivial⟩ rfl rfl ?_; rotate_right; rintro x rout ⟨⟨j, hj1, hj2, hj3, rfl⟩, ⟨c, c1, c2, rfl⟩⟩; refine ⟨rfl, ?_⟩; conv => whnf)
    | (refine CallX.of (s33 n L hL _ ?_ ?_ [0, 50, 60, 80, 1000000] ?_ ?_) [(1000000, 1000000)] rfl ⟨SV.le_refl _, SV.le_lit rfl rfl, trivial⟩ ⟨Res.le_refl _, trivial⟩ rfl rfl ?_; rotate_right; rintro x rout ⟨⟨u1, hu1, rfl⟩, ⟨c, c1, c2, rfl⟩⟩; refine ⟨rfl, ?_⟩; conv => whnf)
    | (refine CallX.of (s33 n L hL _ ?_ ?_ [-5, 0, 1, 100, 900, 1000000000] ?_ ?_) [(1000000, 1000000)] rfl ⟨SV.le_refl _, SV.le_lit rfl rfl, trivial⟩ ⟨Res.le_refl _, trivial⟩ rfl rfl ?_; rotate_right; rintro x rout ⟨⟨u2, hu2, rfl⟩, ⟨c, c1, c2, rfl⟩⟩; refine ⟨rfl, ?_⟩; conv => whnf)
    | (refine CallX.of (s104 n L hL _ ?_ ?_ 0 1000000 ?_ ?_ ?_) [(1000000, 1000000)] rfl ⟨SV.le_refl _, SV.le_refl _, SV.le_refl _, trivial⟩ ⟨Res.le_refl _, trivial⟩ rfl rfl ?_; rotate_right; rintro x rout ⟨⟨u5, hk1, hk2, rfl⟩, ⟨c, c1, c2, rfl⟩⟩; refine ⟨rfl, ?_⟩; conv => whnf)
    | (refine CallX.of (s104 n L hL _ ?_ ?_ (-1000000000) 1000000000 ?_ ?_ ?_) [(1000000, 1000000)] rfl ⟨SV.le_refl _, SV.le_refl _, SV.le_refl _, trivial⟩ ⟨Res.le_refl _, trivial⟩ rfl rfl ?_; rotate_right; rintro x rout ⟨⟨u6, hk3, hk4, rfl⟩, ⟨c, c1, c2, rfl⟩⟩; refine ⟨rfl, ?_⟩; conv => whnf)
    | (refine br_intro (fun hb => ?_) (fun hb => ?_) <;> (try simp only [decide_eq_true_eq, decide_eq_false_iff_not, Bool.not_eq_true', Bool.not_eq_false', Bool.and_eq_true, Bool.or_eq_true, beq_iff_eq, not_and, Int.not_le, Int.not_lt, Int.toNat_natCast, beq_eq_false_iff_ne, ne_eq, eq_self, not_true_eq_false, not_false_eq_true] at hb) <;> (conv => whnf))
    | omega
    | (refine And.intro ?_ ?_; ((try dsimp only); first | omega | (refine ⟨by omega, by omega, Int.le_trans (Int.mul_le_mul_of_nonneg_right (Int.ofNat_le.2 (Nat.le_of_ble_eq_true (rfl : Nat.ble _ 1024 = true))) (by omega)) (by omega), by omega⟩) | (refine Nat.le_trans (Nat.mul_le_mul_left _ (Nat.le_of_ble_eq_true (rfl : Nat.ble _ 1024 = true))) ?_; omega) | (unfold inI64; omega) | (constructor <;> omega) | (simp only [inI64, List.length_cons, List.length_append, List.length_nil, List.length_set] at *; omega) | decide | (unfold inI64; decide)); conv => whnf)
    | omega | decide | assumption)
  · refine ⟨(_, _, k + 1), ?_, ?_, Entails.mk' [(1000000, 1000000), (3, 26)] rfl rfl ⟨SV.le_refl _, SV.le_refl _, SV.le_refl _, SV.le_refl _, SV.le_refl _, trivial⟩ ⟨Res.le_refl _, Res.le_snocF (x := ⟨_, _, _⟩) rfl, trivial⟩⟩
    · exact ⟨⟨by omega, by omega, by omega⟩, by simp; omega⟩
    · show 3 - (k + 1) < 3 - k; omega
  · exact ⟨(c, l, k + 1), ⟨⟨by omega, by omega, by omega⟩, by omega⟩, by show 3 - (k + 1) < 3 - k; omega, (by refine Entails.mk' [(1000000, 1000000), (3, 3)] rfl rfl ?_ ?_ <;> repeat' (first | exact True.intro | exact SV.le_refl _ | exact Res.le_refl _ | exact SV.le_int (by omega) | exact SV.le_any _ | refine And.intro ?_ ?_))⟩
  · refine .freeze _ 3 98 3 _ _ rfl (.weak _ ?_)
    (conv => whnf)
    exact ⟨_, [(1000000, strm n L _)], SV.le_upd2 (f := duF) (d := du0) (l := l) (fun y : Du => (⟨y.kind, u5, y.km⟩ : Du)) (fun y : Du => (⟨y.kind, y.day, u6⟩ : Du)) (fun _ => rfl) (fun _ => rfl), ⟨⟨_, by simp; omega, rfl⟩, _, by omega, by omega, rfl⟩, Res.le_refl _, trivial⟩
  all_goals
    refine .freeze _ 3 98 3 _ _ rfl (.weak _ ?_)
    (conv => whnf)
    exact ⟨_, [(1000000, strm n L _)], SV.le_refl _, ⟨⟨l, by omega, rfl⟩, _, by omega, by omega, rfl⟩, Res.le_refl _, trivial⟩
end Go.Proofs.YtellmmmohdjpeaaDoor
set_option maxRecDepth 20000
namespace Go.Proofs.YtellmmmohdjpeaaDoor
open Go Go.Eng
-- ServicesDue
theorem s7 (n : Nat) (L : Nat → Int) (hn : n ≤ maxLen) (hl : ∀ i, -2^63 ≤ L i ∧ L i < 2^63) : FSpec Tryd.prog 7 [.d (.ro 1 n fun i => [.int .i64 (L i)])] [] (fun x r => x = .d (.bool true) ∧ r = []) := by
  have hL : Rok n L := ⟨hn, hl⟩
  refine spec_of hT (C := []) Tryd.func7 rfl Tryd.call7 rfl rfl rfl ?_
  conv => whnf
  repeat' (first
    | (refine CallX.of (s49 n L hL _ ?_ ?_ ) [(1000000, 23)] rfl ⟨SV.le_refl _, trivial⟩ ⟨Res.le_refl _, trivial⟩ rfl rfl ?_; rotate_right; rintro x rout ⟨⟨v, q1, rfl⟩, ⟨c, c1, c2, rfl⟩⟩; refine ⟨rfl, ?_⟩; conv => whnf)
    | (refine CallX.of (s50 n L hL _ ?_ ?_ ) [(1000000, 23)] rfl ⟨SV.le_refl _, trivial⟩ ⟨Res.le_refl _, trivial⟩ rfl rfl ?_; rotate_right; rintro x rout ⟨⟨x, q2, rfl⟩, ⟨c, c1, c2, rfl⟩⟩; refine ⟨rfl, ?_⟩; conv => whnf)
    | (refine CallX.of (s15 n L hL _ ?_ ?_ [[118, 49], [118, 49], [118, 50], []] ?_ ?_) [(1000000, 23)] rfl ⟨SV.le_refl _, SV.le_lit rfl rfl, trivial⟩ ⟨Res.le_refl _, trivial⟩ rfl rfl ?_; rotate_right; rintro x rout ⟨⟨u, hu, rfl⟩, ⟨c, c1, c2, rfl⟩⟩; refine ⟨rfl, ?_⟩; conv => whnf)
    | (refine CallX.of (s33 n L hL _ ?_ ?_ [0, 10] ?_ ?_) [(1000000, 23)] rfl ⟨SV.le_refl _, SV.le_lit rfl rfl, trivial⟩ ⟨Res.le_refl _, trivial⟩ rfl rfl ?_; rotate_right; rintro x rout ⟨⟨u1, hu1, rfl⟩, ⟨c, c1, c2, rfl⟩⟩; refine ⟨rfl, ?_⟩; conv => whnf)
    | (refine CallX.of (s33 n L hL _ ?_ ?_ [0, 20] ?_ ?_) [(1000000, 23)] rfl ⟨SV.le_refl _, SV.le_lit rfl rfl, trivial⟩ ⟨Res.le_refl _, trivial⟩ rfl rfl ?_; rotate_right; rintro x rout ⟨⟨u2, hu2, rfl⟩, ⟨c, c1, c2, rfl⟩⟩; refine ⟨rfl, ?_⟩; conv => whnf)
    | (refine CallX.of (s33 n L hL _ ?_ ?_ [0, 900, 5900, 10000000, -1] ?_ ?_) [(1000000, 23)] rfl ⟨SV.le_refl _, SV.le_lit rfl rfl, trivial⟩ ⟨Res.le_refl _, trivial⟩ rfl rfl ?_; rotate_right; rintro x rout ⟨⟨m, hm, rfl⟩, ⟨c, c1, c2, rfl⟩⟩; refine ⟨rfl, ?_⟩; conv => whnf)
    | (refine br_intro (fun hb => ?_) (fun hb => ?_) <;> (try simp only [decide_eq_true_eq, decide_eq_false_iff_not, Bool.not_eq_true', Bool.not_eq_false', Bool.and_eq_true, Bool.or_eq_true, beq_iff_eq, not_and, Int.not_le, Int.not_lt, Int.toNat_natCast, beq_eq_false_iff_ne, ne_eq, eq_self, not_true_eq_false, not_false_eq_true] at hb) <;> (conv => whnf))
    | omega
    | (refine And.intro ?_ ?_; ((try dsimp only); first | omega | (refine ⟨by omega, by omega, Int.le_trans (Int.mul_le_mul_of_nonneg_right (Int.ofNat_le.2 (Nat.le_of_ble_eq_true (rfl : Nat.ble _ 1024 = true))) (by omega)) (by omega), by omega⟩) | (refine Nat.le_trans (Nat.mul_le_mul_left _ (Nat.le_of_ble_eq_true (rfl : Nat.ble _ 1024 = true))) ?_; omega) | (unfold inI64; omega) | (constructor <;> omega) | (simp only [inI64, List.length_cons, List.length_append, List.length_nil, List.length_set] at *; omega) | decide | (unfold inI64; decide)); conv => whnf)
    | omega | decide | assumption)
  have hv : ivOk v := ⟨by have := q1.1; omega, fun z hz => by have := q1.2 z hz; unfold ivG at this; unfold ivK; omega⟩
  have hx : svOk x := ⟨by have := q2.1; omega, fun z hz => by have := q2.2 z hz; unfold svG at this; unfold svK; omega⟩
  have hvl := q1.1
  obtain ⟨f, hf⟩ : ∃ f : Svc, f = ⟨u, [110, 101, 119], u1, u2⟩ := ⟨_, rfl⟩
  have hfk : svOk [f] := ⟨by simp, fun z hz => by simp at hz; subst hz; subst hf; exact ⟨by have := mem_len hu rfl; show u.length ≤ _; omega, by show ([110, 101, 119] : List UInt8).length ≤ _; simp⟩⟩
  by_cases hE : duesE v x f m = 0
  · have h51 := s51 v x f m hE hv hx hfk
    have h57 := s57 v x f m hE
    obtain ⟨z1, z2, z3, z4, z5⟩ := dues_zero hE
    have hln := duesL_len v x f m v.length
    have h56 := s56 (duesL v x f m v.length) (duesL v x f m v.length) (by omega)
    rw [decide_eq_true rfl] at h56
    have h52 := s52 v hv
    have h53 := s53 x hx
    have h54 := s54 v hv
    have h55 := s55 x hx
    have h5f := s53 [f] hfk
    rw [z1] at h52 h54
    rw [z2] at h53 h55
    rw [z5] at h5f
    have h20 := s20 (decide (10000000 < m)) 1
    rw [if_neg (by simp; omega)] at h20
    have h17 := s17 [0, 0, 0, 0] (by simp)
    rw [show firstE [0, 0, 0, 0] = 0 from rfl] at h17
    rw [hf] at h51 h57 h5f h56
    repeat' (first
      | (refine CallX.exact (h51) rfl rfl ?_; rotate_right; conv => whnf)
      | (refine CallX.exact (h52) rfl rfl ?_; rotate_right; conv => whnf)
      | (refine CallX.exact (h53) rfl rfl ?_; rotate_right; conv => whnf)
      | (refine CallX.exact (h54) rfl rfl ?_; rotate_right; conv => whnf)
      | (refine CallX.exact (h55) rfl rfl ?_; rotate_right; conv => whnf)
      | (refine CallX.pure h5f ⟨SV.le_lit (l := [(⟨u, [110, 101, 119], u1, u2⟩ : Svc)]) rfl rfl, trivial⟩ rfl ?_; conv => whnf)
      | (refine CallX.exact (h20) rfl rfl ?_; rotate_right; conv => whnf)
      | (refine CallX.pure h17 ⟨SV.le_lit (by rfl) (by rfl), trivial⟩ rfl ?_; conv => whnf)
      | (refine CallX.exact (h57) rfl rfl ?_; rotate_right; conv => whnf)
      | (refine CallX.exact (h56) rfl rfl ?_; rotate_right; conv => whnf)
      | (refine br_intro (fun hb => ?_) (fun hb => ?_) <;> (try simp only [decide_eq_true_eq, decide_eq_false_iff_not, Bool.not_eq_true', Bool.not_eq_false', Bool.and_eq_true, Bool.or_eq_true, beq_iff_eq, not_and, Int.not_le, Int.not_lt, Int.toNat_natCast, beq_eq_false_iff_ne, ne_eq, eq_self, not_true_eq_false, not_false_eq_true] at hb) <;> (conv => whnf))
      | omega
      | (refine And.intro ?_ ?_; ((try dsimp only); first | omega | (refine ⟨by omega, by omega, Int.le_trans (Int.mul_le_mul_of_nonneg_right (Int.ofNat_le.2 (Nat.le_of_ble_eq_true (rfl : Nat.ble _ 1024 = true))) (by omega)) (by omega), by omega⟩) | (refine Nat.le_trans (Nat.mul_le_mul_left _ (Nat.le_of_ble_eq_true (rfl : Nat.ble _ 1024 = true))) ?_; omega) | (unfold inI64; omega) | (constructor <;> omega) | (simp only [inI64, List.length_cons, List.length_append, List.length_nil, List.length_set] at *; omega) | decide | (unfold inI64; decide)); conv => whnf)
      | omega | decide | assumption)
    repeat' (first
      | (refine CallX.of (s58 n L hL _ ?_ ?_ ) [(1000000, 23)] rfl ⟨SV.le_refl _, trivial⟩ ⟨Res.le_refl _, trivial⟩ rfl rfl ?_; rotate_right; rintro x rout ⟨⟨y, q3, rfl⟩, ⟨c, c1, c2, rfl⟩⟩; refine ⟨rfl, ?_⟩; conv => whnf)
      | (refine CallX.of (s33 n L hL _ ?_ ?_ [0, 60, 4000, -1] ?_ ?_) [(1000000, 23)] rfl ⟨SV.le_refl _, SV.le_lit rfl rfl, trivial⟩ ⟨Res.le_refl _, trivial⟩ rfl rfl ?_; rotate_right; rintro x rout ⟨⟨t, ht, rfl⟩, ⟨c, c1, c2, rfl⟩⟩; refine ⟨rfl, ?_⟩; conv => whnf)
      | (refine CallX.of (s33 n L hL _ ?_ ?_ [0, 1, 30, 10000, 10001] ?_ ?_) [(1000000, 23)] rfl ⟨SV.le_refl _, SV.le_lit rfl rfl, trivial⟩ ⟨Res.le_refl _, trivial⟩ rfl rfl ?_; rotate_right; rintro x rout ⟨⟨dl, hdl, rfl⟩, ⟨c, c1, c2, rfl⟩⟩; refine ⟨rfl, ?_⟩; conv => whnf)
      | (refine br_intro (fun hb => ?_) (fun hb => ?_) <;> (try simp only [decide_eq_true_eq, decide_eq_false_iff_not, Bool.not_eq_true', Bool.not_eq_false', Bool.and_eq_true, Bool.or_eq_true, beq_iff_eq, not_and, Int.not_le, Int.not_lt, Int.toNat_natCast, beq_eq_false_iff_ne, ne_eq, eq_self, not_true_eq_false, not_false_eq_true] at hb) <;> (conv => whnf))
      | omega
      | (refine And.intro ?_ ?_; ((try dsimp only); first | omega | (refine ⟨by omega, by omega, Int.le_trans (Int.mul_le_mul_of_nonneg_right (Int.ofNat_le.2 (Nat.le_of_ble_eq_true (rfl : Nat.ble _ 1024 = true))) (by omega)) (by omega), by omega⟩) | (refine Nat.le_trans (Nat.mul_le_mul_left _ (Nat.le_of_ble_eq_true (rfl : Nat.ble _ 1024 = true))) ?_; omega) | (unfold inI64; omega) | (constructor <;> omega) | (simp only [inI64, List.length_cons, List.length_append, List.length_nil, List.length_set] at *; omega) | decide | (unfold inI64; decide)); conv => whnf)
      | omega | decide | assumption)
    have h59 := s59 y t dl (by omega)
    have h60 := s60 y t dl (by omega)
    by_cases hB : byE y t dl = 0
    · have h61 := s61 y t dl hB
      rw [byR_fine hB] at h59
      rw [hB] at h60
      repeat' (first
        | (refine CallX.exact (h59) rfl rfl ?_; rotate_right; conv => whnf)
        | (refine CallX.exact (h60) rfl rfl ?_; rotate_right; conv => whnf)
        | (refine CallX.exact (h61) rfl rfl ?_; rotate_right; conv => whnf)
        | (refine CallX.exact (s32) rfl rfl ?_; rotate_right; conv => whnf)
        | (refine br_intro (fun hb => ?_) (fun hb => ?_) <;> (try simp only [decide_eq_true_eq, decide_eq_false_iff_not, Bool.not_eq_true', Bool.not_eq_false', Bool.and_eq_true, Bool.or_eq_true, beq_iff_eq, not_and, Int.not_le, Int.not_lt, Int.toNat_natCast, beq_eq_false_iff_ne, ne_eq, eq_self, not_true_eq_false, not_false_eq_true] at hb) <;> (conv => whnf))
        | omega
        | (refine And.intro ?_ ?_; ((try dsimp only); first | omega | (refine ⟨by omega, by omega, Int.le_trans (Int.mul_le_mul_of_nonneg_right (Int.ofNat_le.2 (Nat.le_of_ble_eq_true (rfl : Nat.ble _ 1024 = true))) (by omega)) (by omega), by omega⟩) | (refine Nat.le_trans (Nat.mul_le_mul_left _ (Nat.le_of_ble_eq_true (rfl : Nat.ble _ 1024 = true))) ?_; omega) | (unfold inI64; omega) | (constructor <;> omega) | (simp only [inI64, List.length_cons, List.length_append, List.length_nil, List.length_set] at *; omega) | decide | (unfold inI64; decide)); conv => whnf)
        | omega | decide | assumption)
      refine .ret _ ?_
      conv => whnf
      refine ⟨[], ⟨?_, rfl⟩, trivial⟩
      conv => lhs; whnf
    · rw [byR_bad rfl hB] at h59
      generalize byE y t dl = e2 at h59 h60 hB
      repeat' (first
        | (refine CallX.exact (h59) rfl rfl ?_; rotate_right; conv => whnf)
        | (refine CallX.exact (h60) rfl rfl ?_; rotate_right; conv => whnf)
        | (refine CallX.exact (s32) rfl rfl ?_; rotate_right; conv => whnf)
        | (refine br_intro (fun hb => ?_) (fun hb => ?_) <;> (try simp only [decide_eq_true_eq, decide_eq_false_iff_not, Bool.not_eq_true', Bool.not_eq_false', Bool.and_eq_true, Bool.or_eq_true, beq_iff_eq, not_and, Int.not_le, Int.not_lt, Int.toNat_natCast, beq_eq_false_iff_ne, ne_eq, eq_self, not_true_eq_false, not_false_eq_true] at hb) <;> (conv => whnf))
        | omega
        | (refine And.intro ?_ ?_; ((try dsimp only); first | omega | (refine ⟨by omega, by omega, Int.le_trans (Int.mul_le_mul_of_nonneg_right (Int.ofNat_le.2 (Nat.le_of_ble_eq_true (rfl : Nat.ble _ 1024 = true))) (by omega)) (by omega), by omega⟩) | (refine Nat.le_trans (Nat.mul_le_mul_left _ (Nat.le_of_ble_eq_true (rfl : Nat.ble _ 1024 = true))) ?_; omega) | (unfold inI64; omega) | (constructor <;> omega) | (simp only [inI64, List.length_cons, List.length_append, List.length_nil, List.length_set] at *; omega) | decide | (unfold inI64; decide)); conv => whnf)
        | omega | decide | assumption)
      all_goals first
        | exact absurd (by assumption) hB
        | (refine .ret _ ?_
           conv => whnf
           refine ⟨[], ⟨?_, rfl⟩, trivial⟩
           conv => lhs; whnf)
  · have h51 := s51e v x f m hE hv hx hfk
    have h52 := s52 v hv
    have h53 := s53 x hx
    have h54 := s54 v hv
    have h55 := s55 x hx
    have h5f := s53 [f] hfk
    have hEd : duesE v x f m = firstE [ivsE v, svsE x, svsE [f], if ¬ (0 ≤ m ∧ m ≤ 10000000) then 1 else 0] := rfl
    generalize duesE v x f m = e at hE h51 hEd
    generalize ivsE v = e1 at h52 h54 hEd
    generalize svsE x = e2 at h53 h55 hEd
    generalize svsE [f] = e3 at h5f hEd
    rw [hf] at h51 h5f
    rcases (show (0 ≤ m ∧ m ≤ 10000000) ∨ m < 0 ∨ 10000000 < m by omega) with hm1 | hm1 | hm1
    · have h20 := s20 (decide (10000000 < m)) 1
      rw [if_neg (by simp; omega)] at h20
      have h17 := s17 [e1, e2, e3, 0] (by simp)
      rw [if_neg (by omega)] at hEd
      rw [← hEd] at h17
      repeat' (first
        | (refine CallX.exact (h51) rfl rfl ?_; rotate_right; conv => whnf)
        | (refine CallX.exact (h52) rfl rfl ?_; rotate_right; conv => whnf)
        | (refine CallX.exact (h53) rfl rfl ?_; rotate_right; conv => whnf)
        | (refine CallX.exact (h54) rfl rfl ?_; rotate_right; conv => whnf)
        | (refine CallX.exact (h55) rfl rfl ?_; rotate_right; conv => whnf)
        | (refine CallX.pure h5f ⟨SV.le_lit (l := [(⟨u, [110, 101, 119], u1, u2⟩ : Svc)]) rfl rfl, trivial⟩ rfl ?_; conv => whnf)
        | (refine CallX.exact (h20) rfl rfl ?_; rotate_right; conv => whnf)
        | (refine CallX.pure h17 ⟨SV.le_lit (by rfl) (by rfl), trivial⟩ rfl ?_; conv => whnf)
        | (refine br_intro (fun hb => ?_) (fun hb => ?_) <;> (try simp only [decide_eq_true_eq, decide_eq_false_iff_not, Bool.not_eq_true', Bool.not_eq_false', Bool.and_eq_true, Bool.or_eq_true, beq_iff_eq, not_and, Int.not_le, Int.not_lt, Int.toNat_natCast, beq_eq_false_iff_ne, ne_eq, eq_self, not_true_eq_false, not_false_eq_true] at hb) <;> (conv => whnf))
        | omega
        | (refine And.intro ?_ ?_; ((try dsimp only); first | omega | (refine ⟨by omega, by omega, Int.le_trans (Int.mul_le_mul_of_nonneg_right (Int.ofNat_le.2 (Nat.le_of_ble_eq_true (rfl : Nat.ble _ 1024 = true))) (by omega)) (by omega), by omega⟩) | (refine Nat.le_trans (Nat.mul_le_mul_left _ (Nat.le_of_ble_eq_true (rfl : Nat.ble _ 1024 = true))) ?_; omega) | (unfold inI64; omega) | (constructor <;> omega) | (simp only [inI64, List.length_cons, List.length_append, List.length_nil, List.length_set] at *; omega) | decide | (unfold inI64; decide)); conv => whnf)
        | omega | decide | assumption)
      all_goals try (exact absurd (by assumption) hE)
      repeat' (first
        | (refine CallX.of (s58 n L hL _ ?_ ?_ ) [(1000000, 23)] rfl ⟨SV.le_refl _, trivial⟩ ⟨Res.le_refl _, trivial⟩ rfl rfl ?_; rotate_right; rintro x rout ⟨⟨y, q3, rfl⟩, ⟨c, c1, c2, rfl⟩⟩; refine ⟨rfl, ?_⟩; conv => whnf)
        | (refine CallX.of (s33 n L hL _ ?_ ?_ [0, 60, 4000, -1] ?_ ?_) [(1000000, 23)] rfl ⟨SV.le_refl _, SV.le_lit rfl rfl, trivial⟩ ⟨Res.le_refl _, trivial⟩ rfl rfl ?_; rotate_right; rintro x rout ⟨⟨t, ht, rfl⟩, ⟨c, c1, c2, rfl⟩⟩; refine ⟨rfl, ?_⟩; conv => whnf)
        | (refine CallX.of (s33 n L hL _ ?_ ?_ [0, 1, 30, 10000, 10001] ?_ ?_) [(1000000, 23)] rfl ⟨SV.le_refl _, SV.le_lit rfl rfl, trivial⟩ ⟨Res.le_refl _, trivial⟩ rfl rfl ?_; rotate_right; rintro x rout ⟨⟨dl, hdl, rfl⟩, ⟨c, c1, c2, rfl⟩⟩; refine ⟨rfl, ?_⟩; conv => whnf)
        | (refine br_intro (fun hb => ?_) (fun hb => ?_) <;> (try simp only [decide_eq_true_eq, decide_eq_false_iff_not, Bool.not_eq_true', Bool.not_eq_false', Bool.and_eq_true, Bool.or_eq_true, beq_iff_eq, not_and, Int.not_le, Int.not_lt, Int.toNat_natCast, beq_eq_false_iff_ne, ne_eq, eq_self, not_true_eq_false, not_false_eq_true] at hb) <;> (conv => whnf))
        | omega
        | (refine And.intro ?_ ?_; ((try dsimp only); first | omega | (refine ⟨by omega, by omega, Int.le_trans (Int.mul_le_mul_of_nonneg_right (Int.ofNat_le.2 (Nat.le_of_ble_eq_true (rfl : Nat.ble _ 1024 = true))) (by omega)) (by omega), by omega⟩) | (refine Nat.le_trans (Nat.mul_le_mul_left _ (Nat.le_of_ble_eq_true (rfl : Nat.ble _ 1024 = true))) ?_; omega) | (unfold inI64; omega) | (constructor <;> omega) | (simp only [inI64, List.length_cons, List.length_append, List.length_nil, List.length_set] at *; omega) | decide | (unfold inI64; decide)); conv => whnf)
        | omega | decide | assumption)
      have h59 := s59 y t dl (by omega)
      have h60 := s60 y t dl (by omega)
      by_cases hB : byE y t dl = 0
      · have h61 := s61 y t dl hB
        rw [byR_fine hB] at h59
        rw [hB] at h60
        repeat' (first
          | (refine CallX.exact (h59) rfl rfl ?_; rotate_right; conv => whnf)
          | (refine CallX.exact (h60) rfl rfl ?_; rotate_right; conv => whnf)
          | (refine CallX.exact (h61) rfl rfl ?_; rotate_right; conv => whnf)
          | (refine CallX.exact (s32) rfl rfl ?_; rotate_right; conv => whnf)
          | (refine br_intro (fun hb => ?_) (fun hb => ?_) <;> (try simp only [decide_eq_true_eq, decide_eq_false_iff_not, Bool.not_eq_true', Bool.not_eq_false', Bool.and_eq_true, Bool.or_eq_true, beq_iff_eq, not_and, Int.not_le, Int.not_lt, Int.toNat_natCast, beq_eq_false_iff_ne, ne_eq, eq_self, not_true_eq_false, not_false_eq_true] at hb) <;> (conv => whnf))
          | omega
          | (refine And.intro ?_ ?_; ((try dsimp only); first | omega | (refine ⟨by omega, by omega, Int.le_trans (Int.mul_le_mul_of_nonneg_right (Int.ofNat_le.2 (Nat.le_of_ble_eq_true (rfl : Nat.ble _ 1024 = true))) (by omega)) (by omega), by omega⟩) | (refine Nat.le_trans (Nat.mul_le_mul_left _ (Nat.le_of_ble_eq_true (rfl : Nat.ble _ 1024 = true))) ?_; omega) | (unfold inI64; omega) | (constructor <;> omega) | (simp only [inI64, List.length_cons, List.length_append, List.length_nil, List.length_set] at *; omega) | decide | (unfold inI64; decide)); conv => whnf)
          | omega | decide | assumption)
        refine .ret _ ?_
        conv => whnf
        refine ⟨[], ⟨?_, rfl⟩, trivial⟩
        conv => lhs; whnf
      · rw [byR_bad rfl hB] at h59
        generalize byE y t dl = e2 at h59 h60 hB
        repeat' (first
          | (refine CallX.exact (h59) rfl rfl ?_; rotate_right; conv => whnf)
          | (refine CallX.exact (h60) rfl rfl ?_; rotate_right; conv => whnf)
          | (refine CallX.exact (s32) rfl rfl ?_; rotate_right; conv => whnf)
          | (refine br_intro (fun hb => ?_) (fun hb => ?_) <;> (try simp only [decide_eq_true_eq, decide_eq_false_iff_not, Bool.not_eq_true', Bool.not_eq_false', Bool.and_eq_true, Bool.or_eq_true, beq_iff_eq, not_and, Int.not_le, Int.not_lt, Int.toNat_natCast, beq_eq_false_iff_ne, ne_eq, eq_self, not_true_eq_false, not_false_eq_true] at hb) <;> (conv => whnf))
          | omega
          | (refine And.intro ?_ ?_; ((try dsimp only); first | omega | (refine ⟨by omega, by omega, Int.le_trans (Int.mul_le_mul_of_nonneg_right (Int.ofNat_le.2 (Nat.le_of_ble_eq_true (rfl : Nat.ble _ 1024 = true))) (by omega)) (by omega), by omega⟩) | (refine Nat.le_trans (Nat.mul_le_mul_left _ (Nat.le_of_ble_eq_true (rfl : Nat.ble _ 1024 = true))) ?_; omega) | (unfold inI64; omega) | (constructor <;> omega) | (simp only [inI64, List.length_cons, List.length_append, List.length_nil, List.length_set] at *; omega) | decide | (unfold inI64; decide)); conv => whnf)
          | omega | decide | assumption)
        all_goals first
          | exact absurd (by assumption) hB
          | (refine .ret _ ?_
             conv => whnf
             refine ⟨[], ⟨?_, rfl⟩, trivial⟩
             conv => lhs; whnf)
    · have h20 := s20 true 1
      rw [if_pos rfl] at h20
      have h17 := s17 [e1, e2, e3, 1] (by simp)
      rw [if_pos (by omega)] at hEd
      rw [← hEd] at h17
      repeat' (first
        | (refine CallX.exact (h51) rfl rfl ?_; rotate_right; conv => whnf)
        | (refine CallX.exact (h52) rfl rfl ?_; rotate_right; conv => whnf)
        | (refine CallX.exact (h53) rfl rfl ?_; rotate_right; conv => whnf)
        | (refine CallX.exact (h54) rfl rfl ?_; rotate_right; conv => whnf)
        | (refine CallX.exact (h55) rfl rfl ?_; rotate_right; conv => whnf)
        | (refine CallX.pure h5f ⟨SV.le_lit (l := [(⟨u, [110, 101, 119], u1, u2⟩ : Svc)]) rfl rfl, trivial⟩ rfl ?_; conv => whnf)
        | (refine CallX.exact (h20) rfl rfl ?_; rotate_right; conv => whnf)
        | (refine CallX.pure h17 ⟨SV.le_lit (by rfl) (by rfl), trivial⟩ rfl ?_; conv => whnf)
        | (refine br_intro (fun hb => ?_) (fun hb => ?_) <;> (try simp only [decide_eq_true_eq, decide_eq_false_iff_not, Bool.not_eq_true', Bool.not_eq_false', Bool.and_eq_true, Bool.or_eq_true, beq_iff_eq, not_and, Int.not_le, Int.not_lt, Int.toNat_natCast, beq_eq_false_iff_ne, ne_eq, eq_self, not_true_eq_false, not_false_eq_true] at hb) <;> (conv => whnf))
        | omega
        | (refine And.intro ?_ ?_; ((try dsimp only); first | omega | (refine ⟨by omega, by omega, Int.le_trans (Int.mul_le_mul_of_nonneg_right (Int.ofNat_le.2 (Nat.le_of_ble_eq_true (rfl : Nat.ble _ 1024 = true))) (by omega)) (by omega), by omega⟩) | (refine Nat.le_trans (Nat.mul_le_mul_left _ (Nat.le_of_ble_eq_true (rfl : Nat.ble _ 1024 = true))) ?_; omega) | (unfold inI64; omega) | (constructor <;> omega) | (simp only [inI64, List.length_cons, List.length_append, List.length_nil, List.length_set] at *; omega) | decide | (unfold inI64; decide)); conv => whnf)
        | omega | decide | assumption)
      all_goals try (exact absurd (by assumption) hE)
      repeat' (first
        | (refine CallX.of (s58 n L hL _ ?_ ?_ ) [(1000000, 23)] rfl ⟨SV.le_refl _, trivial⟩ ⟨Res.le_refl _, trivial⟩ rfl rfl ?_; rotate_right; rintro x rout ⟨⟨y, q3, rfl⟩, ⟨c, c1, c2, rfl⟩⟩; refine ⟨rfl, ?_⟩; conv => whnf)
        | (refine CallX.of (s33 n L hL _ ?_ ?_ [0, 60, 4000, -1] ?_ ?_) [(1000000, 23)] rfl ⟨SV.le_refl _, SV.le_lit rfl rfl, trivial⟩ ⟨Res.le_refl _, trivial⟩ rfl rfl ?_; rotate_right; rintro x rout ⟨⟨t, ht, rfl⟩, ⟨c, c1, c2, rfl⟩⟩; refine ⟨rfl, ?_⟩; conv => whnf)
        | (refine CallX.of (s33 n L hL _ ?_ ?_ [0, 1, 30, 10000, 10001] ?_ ?_) [(1000000, 23)] rfl ⟨SV.le_refl _, SV.le_lit rfl rfl, trivial⟩ ⟨Res.le_refl _, trivial⟩ rfl rfl ?_; rotate_right; rintro x rout ⟨⟨dl, hdl, rfl⟩, ⟨c, c1, c2, rfl⟩⟩; refine ⟨rfl, ?_⟩; conv => whnf)
        | (refine br_intro (fun hb => ?_) (fun hb => ?_) <;> (try simp only [decide_eq_true_eq, decide_eq_false_iff_not, Bool.not_eq_true', Bool.not_eq_false', Bool.and_eq_true, Bool.or_eq_true, beq_iff_eq, not_and, Int.not_le, Int.not_lt, Int.toNat_natCast, beq_eq_false_iff_ne, ne_eq, eq_self, not_true_eq_false, not_false_eq_true] at hb) <;> (conv => whnf))
        | omega
        | (refine And.intro ?_ ?_; ((try dsimp only); first | omega | (refine ⟨by omega, by omega, Int.le_trans (Int.mul_le_mul_of_nonneg_right (Int.ofNat_le.2 (Nat.le_of_ble_eq_true (rfl : Nat.ble _ 1024 = true))) (by omega)) (by omega), by omega⟩) | (refine Nat.le_trans (Nat.mul_le_mul_left _ (Nat.le_of_ble_eq_true (rfl : Nat.ble _ 1024 = true))) ?_; omega) | (unfold inI64; omega) | (constructor <;> omega) | (simp only [inI64, List.length_cons, List.length_append, List.length_nil, List.length_set] at *; omega) | decide | (unfold inI64; decide)); conv => whnf)
        | omega | decide | assumption)
      have h59 := s59 y t dl (by omega)
      have h60 := s60 y t dl (by omega)
      by_cases hB : byE y t dl = 0
      · have h61 := s61 y t dl hB
        rw [byR_fine hB] at h59
        rw [hB] at h60
        repeat' (first
          | (refine CallX.exact (h59) rfl rfl ?_; rotate_right; conv => whnf)
          | (refine CallX.exact (h60) rfl rfl ?_; rotate_right; conv => whnf)
          | (refine CallX.exact (h61) rfl rfl ?_; rotate_right; conv => whnf)
          | (refine CallX.exact (s32) rfl rfl ?_; rotate_right; conv => whnf)
          | (refine br_intro (fun hb => ?_) (fun hb => ?_) <;> (try simp only [decide_eq_true_eq, decide_eq_false_iff_not, Bool.not_eq_true', Bool.not_eq_false', Bool.and_eq_true, Bool.or_eq_true, beq_iff_eq, not_and, Int.not_le, Int.not_lt, Int.toNat_natCast, beq_eq_false_iff_ne, ne_eq, eq_self, not_true_eq_false, not_false_eq_true] at hb) <;> (conv => whnf))
          | omega
          | (refine And.intro ?_ ?_; ((try dsimp only); first | omega | (refine ⟨by omega, by omega, Int.le_trans (Int.mul_le_mul_of_nonneg_right (Int.ofNat_le.2 (Nat.le_of_ble_eq_true (rfl : Nat.ble _ 1024 = true))) (by omega)) (by omega), by omega⟩) | (refine Nat.le_trans (Nat.mul_le_mul_left _ (Nat.le_of_ble_eq_true (rfl : Nat.ble _ 1024 = true))) ?_; omega) | (unfold inI64; omega) | (constructor <;> omega) | (simp only [inI64, List.length_cons, List.length_append, List.length_nil, List.length_set] at *; omega) | decide | (unfold inI64; decide)); conv => whnf)
          | omega | decide | assumption)
        refine .ret _ ?_
        conv => whnf
        refine ⟨[], ⟨?_, rfl⟩, trivial⟩
        conv => lhs; whnf
      · rw [byR_bad rfl hB] at h59
        generalize byE y t dl = e2 at h59 h60 hB
        repeat' (first
          | (refine CallX.exact (h59) rfl rfl ?_; rotate_right; conv => whnf)
          | (refine CallX.exact (h60) rfl rfl ?_; rotate_right; conv => whnf)
          | (refine CallX.exact (s32) rfl rfl ?_; rotate_right; conv => whnf)
          | (refine br_intro (fun hb => ?_) (fun hb => ?_) <;> (try simp only [decide_eq_true_eq, decide_eq_false_iff_not, Bool.not_eq_true', Bool.not_eq_false', Bool.and_eq_true, Bool.or_eq_true, beq_iff_eq, not_and, Int.not_le, Int.not_lt, Int.toNat_natCast, beq_eq_false_iff_ne, ne_eq, eq_self, not_true_eq_false, not_false_eq_true] at hb) <;> (conv => whnf))
          | omega
          | (refine And.intro ?_ ?_; ((try dsimp only); first | omega | (refine ⟨by omega, by omega, Int.le_trans (Int.mul_le_mul_of_nonneg_right (Int.ofNat_le.2 (Nat.le_of_ble_eq_true (rfl : Nat.ble _ 1024 = true))) (by omega)) (by omega), by omega⟩) | (refine Nat.le_trans (Nat.mul_le_mul_left _ (Nat.le_of_ble_eq_true (rfl : Nat.ble _ 1024 = true))) ?_; omega) | (unfold inI64; omega) | (constructor <;> omega) | (simp only [inI64, List.length_cons, List.length_append, List.length_nil, List.length_set] at *; omega) | decide | (unfold inI64; decide)); conv => whnf)
          | omega | decide | assumption)
        all_goals first
          | exact absurd (by assumption) hB
          | (refine .ret _ ?_
             conv => whnf
             refine ⟨[], ⟨?_, rfl⟩, trivial⟩
             conv => lhs; whnf)
    · have h20 := s20 (decide (10000000 < m)) 1
      rw [if_pos (by simp; omega)] at h20
      have h17 := s17 [e1, e2, e3, 1] (by simp)
      rw [if_pos (by omega)] at hEd
      rw [← hEd] at h17
      repeat' (first
        | (refine CallX.exact (h51) rfl rfl ?_; rotate_right; conv => whnf)
        | (refine CallX.exact (h52) rfl rfl ?_; rotate_right; conv => whnf)
        | (refine CallX.exact (h53) rfl rfl ?_; rotate_right; conv => whnf)
        | (refine CallX.exact (h54) rfl rfl ?_; rotate_right; conv => whnf)
        | (refine CallX.exact (h55) rfl rfl ?_; rotate_right; conv => whnf)
        | (refine CallX.pure h5f ⟨SV.le_lit (l := [(⟨u, [110, 101, 119], u1, u2⟩ : Svc)]) rfl rfl, trivial⟩ rfl ?_; conv => whnf)
        | (refine CallX.exact (h20) rfl rfl ?_; rotate_right; conv => whnf)
        | (refine CallX.pure h17 ⟨SV.le_lit (by rfl) (by rfl), trivial⟩ rfl ?_; conv => whnf)
        | (refine br_intro (fun hb => ?_) (fun hb => ?_) <;> (try simp only [decide_eq_true_eq, decide_eq_false_iff_not, Bool.not_eq_true', Bool.not_eq_false', Bool.and_eq_true, Bool.or_eq_true, beq_iff_eq, not_and, Int.not_le, Int.not_lt, Int.toNat_natCast, beq_eq_false_iff_ne, ne_eq, eq_self, not_true_eq_false, not_false_eq_true] at hb) <;> (conv => whnf))
        | omega
        | (refine And.intro ?_ ?_; ((try dsimp only); first | omega | (refine ⟨by omega, by omega, Int.le_trans (Int.mul_le_mul_of_nonneg_right (Int.ofNat_le.2 (Nat.le_of_ble_eq_true (rfl : Nat.ble _ 1024 = true))) (by omega)) (by omega), by omega⟩) | (refine Nat.le_trans (Nat.mul_le_mul_left _ (Nat.le_of_ble_eq_true (rfl : Nat.ble _ 1024 = true))) ?_; omega) | (unfold inI64; omega) | (constructor <;> omega) | (simp only [inI64, List.length_cons, List.length_append, List.length_nil, List.length_set] at *; omega) | decide | (unfold inI64; decide)); conv => whnf)
        | omega | decide | assumption)
      all_goals try (exact absurd (by assumption) hE)
      repeat' (first
        | (refine CallX.of (s58 n L hL _ ?_ ?_ ) [(1000000, 23)] rfl ⟨SV.le_refl _, trivial⟩ ⟨Res.le_refl _, trivial⟩ rfl rfl ?_; rotate_right; rintro x rout ⟨⟨y, q3, rfl⟩, ⟨c, c1, c2, rfl⟩⟩; refine ⟨rfl, ?_⟩; conv => whnf)
        | (refine CallX.of (s33 n L hL _ ?_ ?_ [0, 60, 4000, -1] ?_ ?_) [(1000000, 23)] rfl ⟨SV.le_refl _, SV.le_lit rfl rfl, trivial⟩ ⟨Res.le_refl _, trivial⟩ rfl rfl ?_; rotate_right; rintro x rout ⟨⟨t, ht, rfl⟩, ⟨c, c1, c2, rfl⟩⟩; refine ⟨rfl, ?_⟩; conv => whnf)
        | (refine CallX.of (s33 n L hL _ ?_ ?_ [0, 1, 30, 10000, 10001] ?_ ?_) [(1000000, 23)] rfl ⟨SV.le_refl _, SV.le_lit rfl rfl, trivial⟩ ⟨Res.le_refl _, trivial⟩ rfl rfl ?_; rotate_right; rintro x rout ⟨⟨dl, hdl, rfl⟩, ⟨c, c1, c2, rfl⟩⟩; refine ⟨rfl, ?_⟩; conv => whnf)
        | (refine br_intro (fun hb => ?_) (fun hb => ?_) <;> (try simp only [decide_eq_true_eq, decide_eq_false_iff_not, Bool.not_eq_true', Bool.not_eq_false', Bool.and_eq_true, Bool.or_eq_true, beq_iff_eq, not_and, Int.not_le, Int.not_lt, Int.toNat_natCast, beq_eq_false_iff_ne, ne_eq, eq_self, not_true_eq_false, not_false_eq_true] at hb) <;> (conv => whnf))
        | omega
        | (refine And.intro ?_ ?_; ((try dsimp only); first | omega | (refine ⟨by omega, by omega, Int.le_trans (Int.mul_le_mul_of_nonneg_right (Int.ofNat_le.2 (Nat.le_of_ble_eq_true (rfl : Nat.ble _ 1024 = true))) (by omega)) (by omega), by omega⟩) | (refine Nat.le_trans (Nat.mul_le_mul_left _ (Nat.le_of_ble_eq_true (rfl : Nat.ble _ 1024 = true))) ?_; omega) | (unfold inI64; omega) | (constructor <;> omega) | (simp only [inI64, List.length_cons, List.length_append, List.length_nil, List.length_set] at *; omega) | decide | (unfold inI64; decide)); conv => whnf)
        | omega | decide | assumption)
      have h59 := s59 y t dl (by omega)
      have h60 := s60 y t dl (by omega)
      by_cases hB : byE y t dl = 0
      · have h61 := s61 y t dl hB
        rw [byR_fine hB] at h59
        rw [hB] at h60
        repeat' (first
          | (refine CallX.exact (h59) rfl rfl ?_; rotate_right; conv => whnf)
          | (refine CallX.exact (h60) rfl rfl ?_; rotate_right; conv => whnf)
          | (refine CallX.exact (h61) rfl rfl ?_; rotate_right; conv => whnf)
          | (refine CallX.exact (s32) rfl rfl ?_; rotate_right; conv => whnf)
          | (refine br_intro (fun hb => ?_) (fun hb => ?_) <;> (try simp only [decide_eq_true_eq, decide_eq_false_iff_not, Bool.not_eq_true', Bool.not_eq_false', Bool.and_eq_true, Bool.or_eq_true, beq_iff_eq, not_and, Int.not_le, Int.not_lt, Int.toNat_natCast, beq_eq_false_iff_ne, ne_eq, eq_self, not_true_eq_false, not_false_eq_true] at hb) <;> (conv => whnf))
          | omega
          | (refine And.intro ?_ ?_; ((try dsimp only); first | omega | (refine ⟨by omega, by omega, Int.le_trans (Int.mul_le_mul_of_nonneg_right (Int.ofNat_le.2 (Nat.le_of_ble_eq_true (rfl : Nat.ble _ 1024 = true))) (by omega)) (by omega), by omega⟩) | (refine Nat.le_trans (Nat.mul_le_mul_left _ (Nat.le_of_ble_eq_true (rfl : Nat.ble _ 1024 = true))) ?_; omega) | (unfold inI64; omega) | (constructor <;> omega) | (simp only [inI64, List.length_cons, List.length_append, List.length_nil, List.length_set] at *; omega) | decide | (unfold inI64; decide)); conv => whnf)
          | omega | decide | assumption)
        refine .ret _ ?_
        conv => whnf
        refine ⟨[], ⟨?_, rfl⟩, trivial⟩
        conv => lhs; whnf
      · rw [byR_bad rfl hB] at h59
        generalize byE y t dl = e2 at h59 h60 hB
        repeat' (first
          | (refine CallX.exact (h59) rfl rfl ?_; rotate_right; conv => whnf)
          | (refine CallX.exact (h60) rfl rfl ?_; rotate_right; conv => whnf)
          | (refine CallX.exact (s32) rfl rfl ?_; rotate_right; conv => whnf)
          | (refine br_intro (fun hb => ?_) (fun hb => ?_) <;> (try simp only [decide_eq_true_eq, decide_eq_false_iff_not, Bool.not_eq_true', Bool.not_eq_false', Bool.and_eq_true, Bool.or_eq_true, beq_iff_eq, not_and, Int.not_le, Int.not_lt, Int.toNat_natCast, beq_eq_false_iff_ne, ne_eq, eq_self, not_true_eq_false, not_false_eq_true] at hb) <;> (conv => whnf))
          | omega
          | (refine And.intro ?_ ?_; ((try dsimp only); first | omega | (refine ⟨by omega, by omega, Int.le_trans (Int.mul_le_mul_of_nonneg_right (Int.ofNat_le.2 (Nat.le_of_ble_eq_true (rfl : Nat.ble _ 1024 = true))) (by omega)) (by omega), by omega⟩) | (refine Nat.le_trans (Nat.mul_le_mul_left _ (Nat.le_of_ble_eq_true (rfl : Nat.ble _ 1024 = true))) ?_; omega) | (unfold inI64; omega) | (constructor <;> omega) | (simp only [inI64, List.length_cons, List.length_append, List.length_nil, List.length_set] at *; omega) | decide | (unfold inI64; decide)); conv => whnf)
          | omega | decide | assumption)
        all_goals first
          | exact absurd (by assumption) hB
          | (refine .ret _ ?_
             conv => whnf
             refine ⟨[], ⟨?_, rfl⟩, trivial⟩
             conv => lhs; whnf)
end Go.Proofs.YtellmmmohdjpeaaDoor
