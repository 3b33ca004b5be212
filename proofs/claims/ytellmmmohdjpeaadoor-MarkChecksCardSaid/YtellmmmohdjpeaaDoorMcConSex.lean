/- MarkChecks is proved: for every input the law returns true, and its argument reads afterwards as it read before. Conditions: those of the given row alone. -/
import Derived.Test.YtellmmmohdjpeaaDoorMcConQui
import Derived.Shelf.Small.Strs
import Derived.Test.YtellmmmohdjpeaaDoorProg
set_option linter.unusedVariables false
set_option linter.unusedSimpArgs false
set_option maxRecDepth 20000
namespace Go.Proofs.YtellmmmohdjpeaaDoor
open Go Go.Eng
structure Pnl where
  key : List UInt8
  w : Int
  h : Int
  pr : Int
def pnF : Pnl → List DV := fun p => [.str p.key, .int .i64 p.w, .int .i64 p.h, .int .i64 p.pr]
def pn0 : Pnl := ⟨[], 0, 0, 0⟩
abbrev pnls (l : List Pnl) : DV := seqD 4 pnF pn0 l
structure Mrk where
  pan : List UInt8
  kind : Int
  x : Int
  y : Int
  size : Int
def mkF : Mrk → List DV := fun m => [.str m.pan, .int .i64 m.kind, .int .i64 m.x, .int .i64 m.y, .int .i64 m.size]
def mk0 : Mrk := ⟨[], 0, 0, 0, 0⟩
abbrev mrks (l : List Mrk) : DV := seqD 5 mkF mk0 l
structure Rul where
  near : Int
  slack : Int
  join : Int
  part : Int
def ruF : Rul → List DV := fun r => [.int .i64 r.near, .int .i64 r.slack, .int .i64 r.join, .int .i64 r.part]
def panE (l : List Pnl) (i : Nat) : Int :=
  let x := l.getD i pn0
  if isKeyB x.key = false then 5 else if 0 < i ∧ strLe x.key (l.getD (i - 1) pn0).key = true then 7 else if ¬ ((1 ≤ x.w ∧ x.w ≤ 5000) ∧ (1 ≤ x.h ∧ x.h ≤ 5000) ∧ (0 ≤ x.pr ∧ x.pr ≤ 1000000)) then 1 else 0
def pansE (l : List Pnl) : Int := if 40 < l.length then 2 else firstAt (panE l) l.length
def mrkCmp (a b : Mrk) : Int := firstE [cmpS a.pan b.pan, cmpI a.kind b.kind, cmpI a.x b.x, cmpI a.y b.y, cmpI a.size b.size]
def mrkE (l : List Mrk) (i : Nat) : Int :=
  let x := l.getD i mk0
  if isKeyB x.pan = false then 5 else if ¬ (1 ≤ x.kind ∧ x.kind ≤ 4) then 4 else if ¬ ((0 ≤ x.x ∧ x.x ≤ 5000) ∧ (0 ≤ x.y ∧ x.y ≤ 5000) ∧ (1 ≤ x.size ∧ x.size ≤ 2000)) then 1 else if 0 < i ∧ 0 ≤ mrkCmp (l.getD (i - 1) mk0) x then 7 else 0
def mrksE (l : List Mrk) : Int := if 60 < l.length then 2 else firstAt (mrkE l) l.length
def panIx (p : List Pnl) (key : List UInt8) : Int := ixF (fun i => (p.getD i pn0).key == key) p.length
def onE (p : List Pnl) (l : List Mrk) (i : Nat) : Int :=
  let m := l.getD i mk0
  let k := panIx p m.pan
  if k < 0 then 8 else if (p.getD k.toNat pn0).w ≤ m.x ∨ (p.getD k.toNat pn0).h ≤ m.y then 1 else 0
def sameM (a b : Mrk) : Bool := a.pan == b.pan && decide (a.kind = b.kind)
/-- How many of the first n marks are of a mark's panel and kind. -/
def cntM (l : List Mrk) (m : Mrk) : Nat → Nat
  | 0 => 0
  | n + 1 => cntM l m n + (if sameM (l.getD n mk0) m then 1 else 0)
/-- The marks of one panel and kind that end at a place. -/
def runM (l : List Mrk) : Nat → Nat
  | 0 => 1
  | n + 1 => if sameM (l.getD (n + 1) mk0) (l.getD n mk0) then runM l n + 1 else 1
def fullE (l : List Mrk) (i : Nat) : Int := if 6 < runM l i then 12 else 0
def full2E (l : List Mrk) (i : Nat) : Int := if 6 < cntM l (l.getD i mk0) l.length then 12 else 0
def onPE (p : List Pnl) (l : List Mrk) : Int := if mrksE l ≠ 0 then mrksE l else if firstAt (onE p l) l.length ≠ 0 then firstAt (onE p l) l.length else firstAt (fullE l) l.length
theorem less_trans : ∀ {a b c : List UInt8}, Op.bytesLess a b = true → Op.bytesLess b c = true → Op.bytesLess a c = true := by
  intro a
  induction a with
  | nil => intro b c h1 h2; cases b <;> cases c <;> simp_all [Op.bytesLess]
  | cons x a ih =>
    intro b c h1 h2
    cases b with
    | nil => simp [Op.bytesLess] at h1
    | cons y b =>
      cases c with
      | nil => simp [Op.bytesLess] at h2
      | cons z c =>
        simp only [Op.bytesLess] at h1 h2 ⊢
        grind [UInt8.lt_trans]
theorem less_irr : ∀ (a : List UInt8), Op.bytesLess a a = false := by
  intro a
  induction a with
  | nil => rfl
  | cons x a ih => simp [Op.bytesLess, ih]
/-- By panel, then by kind. -/
def kle (a b : Mrk) : Prop := Op.bytesLess a.pan b.pan = true ∨ (a.pan = b.pan ∧ a.kind ≤ b.kind)
theorem kle_trans {a b c : Mrk} (h : kle a b) (k : kle b c) : kle a c := by
  unfold kle at *
  rcases h with h | ⟨h1, h2⟩ <;> rcases k with k | ⟨k1, k2⟩
  · exact .inl (less_trans h k)
  · exact .inl (k1 ▸ h)
  · exact .inl (h1 ▸ k)
  · exact .inr ⟨h1.trans k1, by omega⟩
theorem kle_anti {a b : Mrk} (h : kle a b) (k : kle b a) : sameM a b = true := by
  unfold kle at *
  rcases h with h | ⟨h1, h2⟩ <;> rcases k with k | ⟨k1, k2⟩
  · have := less_trans h k; rw [less_irr] at this; cases this
  · rw [k1, less_irr] at h; cases h
  · rw [h1, less_irr] at k; cases k
  · simp [sameM, h1]; omega
theorem cmp_kle {a b : Mrk} (h : mrkCmp a b < 0) : kle a b := by
  unfold mrkCmp at h
  simp only [firstE, cmpS, cmpI] at h
  unfold kle
  by_cases q : Op.bytesLess a.pan b.pan = true
  · exact .inl q
  · have q' : Op.bytesLess a.pan b.pan = false := by simpa using q
    by_cases e : a.pan = b.pan
    · refine .inr ⟨e, ?_⟩
      have q2 : Op.bytesLess b.pan a.pan = false := by rw [e]; exact less_irr _
      simp only [q', q2] at h
      grind
    · have := less_tri _ _ q' e
      simp [q', this] at h
def incM (l : List Mrk) : Prop := ∀ i, i + 1 < l.length → kle (l.getD i mk0) (l.getD (i + 1) mk0)
theorem inc_le {l : List Mrk} (h : incM l) : ∀ {j i : Nat}, i ≤ j → j < l.length → kle (l.getD i mk0) (l.getD j mk0) := by
  intro j
  induction j with
  | zero => intro i hi _; obtain rfl : i = 0 := by omega
            exact .inr ⟨rfl, Int.le_refl _⟩
  | succ j ih =>
    intro i hi hj
    by_cases q : i = j + 1
    · subst q; exact .inr ⟨rfl, Int.le_refl _⟩
    · exact kle_trans (ih (by omega) (by omega)) (h j hj)
theorem sameM_symm {a b : Mrk} (h : sameM a b = true) : sameM b a = true := by
  simp [sameM] at *; exact ⟨h.1.symm, h.2.symm⟩
theorem sameM_trans {a b c : Mrk} (h : sameM a b = true) (k : sameM b c = true) : sameM a c = true := by
  simp [sameM] at *; exact ⟨h.1.trans k.1, h.2.trans k.2⟩
theorem cnt_same {l : List Mrk} {a b : Mrk} (h : sameM a b = true) : ∀ n, cntM l a n = cntM l b n := by
  intro n
  induction n with
  | zero => rfl
  | succ n ih =>
    have : sameM (l.getD n mk0) a = sameM (l.getD n mk0) b := by
      rw [Bool.eq_iff_iff]; exact ⟨fun q => sameM_trans q h, fun q => sameM_trans q (sameM_symm h)⟩
    simp only [cntM, ih, this]
theorem cnt_none {l : List Mrk} {m : Mrk} : ∀ n, (∀ j, j < n → sameM (l.getD j mk0) m = false) → cntM l m n = 0 := by
  intro n
  induction n with
  | zero => intro _; rfl
  | succ n ih => intro h; simp only [cntM]; rw [ih (fun j hj => h j (by omega)), h n (by omega)]; rfl
theorem sameM_refl (a : Mrk) : sameM a a = true := by simp [sameM]
theorem run_cnt {l : List Mrk} (h : incM l) : ∀ i, i < l.length → runM l i = cntM l (l.getD i mk0) (i + 1) := by
  intro i
  induction i with
  | zero => intro _; simp [runM, cntM, sameM_refl]
  | succ i ih =>
    intro hi
    rw [cntM, sameM_refl, if_pos rfl, runM]
    split
    · rename_i q
      rw [ih (by omega), cnt_same (sameM_symm q)]
    · rename_i q
      rw [cnt_none]
      intro j hj
      rw [← Bool.not_eq_true]
      intro hs
      refine q (sameM_symm (kle_anti (h i (by omega)) ?_))
      have h1 := inc_le h (i := j) (j := i) (by omega) (by omega)
      have h2 : kle (l.getD (i + 1) mk0) (l.getD j mk0) := by
        have := sameM_symm hs
        simp [sameM] at this
        exact .inr ⟨by simpa using this.1, by simpa using Int.le_of_eq this.2⟩
      exact kle_trans h2 h1
theorem cnt_mono {l : List Mrk} {m : Mrk} : ∀ {n k : Nat}, n ≤ k → cntM l m n ≤ cntM l m k := by
  intro n k
  induction k with
  | zero => intro h; obtain rfl : n = 0 := by omega
            exact Nat.le_refl _
  | succ k ih =>
    intro h
    by_cases q : n = k + 1
    · subst q; exact Nat.le_refl _
    · have := ih (by omega)
      rw [cntM]; omega
/-- The last of a kind has them all behind it. -/
theorem cnt_last {l : List Mrk} {m : Mrk} : ∀ {n : Nat}, 0 < cntM l m n → ∃ i, i < n ∧ sameM (l.getD i mk0) m = true ∧ cntM l m (i + 1) = cntM l m n := by
  intro n
  induction n with
  | zero => intro h; simp [cntM] at h
  | succ n ih =>
    intro h
    by_cases q : sameM (l.getD n mk0) m = true
    · exact ⟨n, by omega, q, rfl⟩
    · have e : cntM l m (n + 1) = cntM l m n := by rw [cntM, if_neg q]; omega
      rw [e] at h ⊢
      obtain ⟨i, h1, h2, h3⟩ := ih h
      exact ⟨i, by omega, h2, h3⟩
theorem firstAt_const {f : Nat → Int} {n : Nat} {e : Int} (h : ∀ i, i < n → f i = 0 ∨ f i = e) : firstAt f n = 0 ∨ firstAt f n = e := by
  induction n with
  | zero => exact .inl rfl
  | succ n ih =>
    rw [firstAt]
    have := ih fun i hi => h i (by omega)
    split
    · exact h n (by omega)
    · exact this
theorem full_eq {l : List Mrk} (h : incM l) : firstAt (full2E l) l.length = firstAt (fullE l) l.length := by
  have c1 := firstAt_const (f := fullE l) (n := l.length) (e := 12) (fun i _ => by unfold fullE; split <;> simp)
  have c2 := firstAt_const (f := full2E l) (n := l.length) (e := 12) (fun i _ => by unfold full2E; split <;> simp)
  rcases c1 with c1 | c1 <;> rcases c2 with c2 | c2
  · rw [c1, c2]
  · exfalso
    have h1 := firstAt_all c1
    have : firstAt (full2E l) l.length = 0 := by
      refine firstAt_zero (fun i hi => ?_)
      unfold full2E
      rw [if_neg]
      intro q
      obtain ⟨k, k1, k2, k3⟩ := cnt_last (n := l.length) (by omega : 0 < cntM l (l.getD i mk0) l.length)
      have := h1 k k1
      unfold fullE at this
      rw [run_cnt h k k1, cnt_same k2, k3, if_pos q] at this
      cases this
    omega
  · exfalso
    have h1 := firstAt_all c2
    have : firstAt (fullE l) l.length = 0 := by
      refine firstAt_zero (fun i hi => ?_)
      unfold fullE
      rw [if_neg]
      intro q
      have := h1 i hi
      unfold full2E at this
      rw [if_pos] at this
      · cases this
      · rw [run_cnt h i hi] at q
        have := cnt_mono (l := l) (m := l.getD i mk0) (n := i + 1) (k := l.length) (by omega)
        omega
    omega
  · rw [c1, c2]
theorem mrks_inc {l : List Mrk} (h : mrksE l = 0) : incM l := by
  unfold mrksE at h
  split at h
  · cases h
  intro i hi
  have := firstAt_all h (i + 1) hi
  unfold mrkE at this
  simp only at this
  refine cmp_kle ?_
  grind
end Go.Proofs.YtellmmmohdjpeaaDoor
namespace Go.Proofs
open Go.Shelf
def Tryd.lays106_ren : Go.Shelf.Ren := ⟨fun | 106 => 190 | 213 => 222 | 265 => 236 | n => n, fun n => n, fun n => n⟩
theorem Tryd.lays106 : Go.Proofs.Lays.n106 Tryd.prog Tryd.lays106_ren := {
  mixed := by kernel_rfl
  f106 := Tryd.func190.trans (congrArg some (by kernel_rfl))
  f213 := Tryd.func222.trans (congrArg some (by kernel_rfl))
  f265 := Tryd.func236.trans (congrArg some (by kernel_rfl))
  t3 := Tryd.underlying3
  a3 := Tryd.isAgg3
  z3 := Tryd.sizeOf3
  v3 := Tryd.zeroValue3
  t9 := Tryd.underlying9
  a9 := Tryd.isAgg9
  z9 := Tryd.sizeOf9
  v9 := Tryd.zeroValue9 }
end Go.Proofs

set_option maxRecDepth 20000
namespace Go.Proofs.YtellmmmohdjpeaaDoor
open Go Go.Eng Go.RowKit
def pnK (p : Pnl) : Prop := p.key.length ≤ 2^40
def pnOk (l : List Pnl) : Prop := l.length ≤ 2^40 ∧ ∀ p ∈ l, pnK p
def mkK (m : Mrk) : Prop := m.pan.length ≤ 2^40
def mkOk (l : List Mrk) : Prop := l.length ≤ 2^40 ∧ ∀ m ∈ l, mkK m
-- mark.CheckPanels
theorem s98 (l : List Pnl) (hk : pnOk l) : FSpec Tryd.prog 98 [.d (pnls l)] [] (fun x r => x = .d (.int .i64 (pansE l)) ∧ r = []) := by
  refine spec_of hT (C := []) Tryd.func98 rfl Tryd.call98 rfl rfl rfl ?_
  conv => whnf
  refine br_intro (fun h0 => ?_) (fun h0 => ?_)
  · simp at h0
    conv => whnf
    refine .ret _ ?_
    conv => whnf
    refine ⟨[], ⟨?_, rfl⟩, trivial⟩
    conv => lhs; whnf
    unfold pansE; rw [if_pos (by omega)]
  simp at h0
  conv => whnf
  refine LoopX.rule hT (C := []) (ι := Nat) (fun i => i ≤ l.length ∧ ∀ j, j < i → panE l j = 0) (fun i => mkSt [(0, .d (pnls l)), (8, .d (pnls l)), (9, .d (.int .i64 l.length)), (10, .d (.int .i64 i))] []) (fun i => l.length - i) 0 ⟨by omega, by omega⟩ (by refine Entails.mk' [] rfl rfl ?_ ?_ <;> repeat' (first | exact True.intro | exact SV.le_refl _ | exact Res.le_refl _ | exact SV.le_int (by omega) | exact SV.le_any _ | refine And.intro ?_ ?_)) ?_
  rintro i ⟨p1, p2⟩
  have hx : (i : Int) < l.length → pnK (l.getD (i : Int).toNat pn0) := fun hi => hk.2 _ (getD_mem (by omega))
  have e1 : (i : Int).toNat = i := Int.toNat_natCast i
  have hbad : ∀ e : Int, i < l.length → e ≠ 0 → panE l i = e → pansE l = e := fun e h h1 h2 => by
    unfold pansE; rw [if_neg (by omega)]
    exact firstAt_eq h p2 h1 h2
  conv => whnf
  repeat' (first
    | (refine CallX.exact (s108 _ (hx (by omega))) rfl rfl ?_; rotate_right; conv => whnf)
    | (refine CallX.exact (s119 _ _ _) rfl rfl ?_; rotate_right; conv => whnf)
    | (refine br_intro (fun hb => ?_) (fun hb => ?_) <;> (try simp only [decide_eq_true_eq, decide_eq_false_iff_not, Bool.not_eq_true', Bool.not_eq_false', Bool.and_eq_true, Bool.or_eq_true, beq_iff_eq, not_and, Int.not_le, Int.not_lt, Int.toNat_natCast, beq_eq_false_iff_ne, ne_eq, eq_self, not_true_eq_false, not_false_eq_true] at hb) <;> (conv => whnf))
    | (refine RegX.rule (id := 8) hT rfl [] [(0, []), (1, []), (2, []), (3, []), (4, []), (5, [3, 4]), (6, [3, 4, 5]), (7, [3, 4, 5]), (8, [3, 4]), (9, [3, 4]), (10, [3, 4]), (11, []), (12, []), (13, [])] (by decide +kernel) ?_; conv => whnf)
    | omega
    | (refine And.intro ?_ ?_; ((try dsimp only); first | omega | (refine ⟨by omega, by omega, Int.le_trans (Int.mul_le_mul_of_nonneg_right (Int.ofNat_le.2 (Nat.le_of_ble_eq_true (rfl : Nat.ble _ 1024 = true))) (by omega)) (by omega), by omega⟩) | (refine Nat.le_trans (Nat.mul_le_mul_left _ (Nat.le_of_ble_eq_true (rfl : Nat.ble _ 1024 = true))) ?_; omega) | (unfold inI64; omega) | (constructor <;> omega) | (simp only [inI64, List.length_cons, List.length_append, List.length_nil, List.length_set] at *; omega) | decide | (unfold inI64; decide)); conv => whnf)
    | omega | decide | assumption)
  all_goals first
    | (refine ⟨i + 1, ⟨by omega, first_step p2 (by clear p2 hbad hk hx; simp only [e1, toNat_pred] at *; unfold panE strLe; grind)⟩, by omega, (by refine Entails.mk' [] rfl rfl ?_ ?_ <;> repeat' (first | exact True.intro | exact SV.le_refl _ | exact Res.le_refl _ | exact SV.le_int (by omega) | exact SV.le_any _ | refine And.intro ?_ ?_))⟩)
    | (refine .ret _ ?_
       conv => whnf
       refine ⟨[], ⟨?_, rfl⟩, trivial⟩
       conv => lhs; whnf
       congr 2
       first
         | exact (hbad _ (by omega) (by decide) (by clear p2 hbad hk hx; simp only [e1, toNat_pred] at *; unfold panE strLe; grind)).symm
         | (have : i = l.length := by omega
            subst this
            unfold pansE; rw [if_neg (by omega), firstAt_zero p2]))
-- PanelsFault
theorem s99 (l : List Pnl) (hk : pnOk l) : FSpec Tryd.prog 99 [.d (pnls l)] [] (fun x r => x = .d (.int .i64 (pansE l)) ∧ r = []) := by
  refine spec_of hT (C := []) Tryd.func99 rfl Tryd.call99 rfl rfl rfl ?_
  conv => whnf
  refine br_intro (fun h0 => ?_) (fun h0 => ?_)
  · simp at h0
    conv => whnf
    refine .ret _ ?_
    conv => whnf
    refine ⟨[], ⟨?_, rfl⟩, trivial⟩
    conv => lhs; whnf
    unfold pansE; rw [if_pos (by omega)]
  simp at h0
  conv => whnf
  refine LoopX.rule hT (C := []) (ι := Nat) (fun i => i ≤ l.length ∧ ∀ j, j < i → panE l j = 0) (fun i => mkSt [(3, .d (.str (if i = 0 then [] else (l.getD (i - 1) pn0).key))), (9, .d (pnls l)), (10, .d (.int .i64 l.length)), (11, .d (.int .i64 i))] []) (fun i => l.length - i) 0 ⟨by omega, by omega⟩ (by refine Entails.mk' [] rfl rfl ?_ ?_ <;> repeat' (first | exact True.intro | exact SV.le_refl _ | exact Res.le_refl _ | exact SV.le_int (by omega) | exact SV.le_any _ | refine And.intro ?_ ?_)) ?_
  rintro i ⟨p1, p2⟩
  have hx : (i : Int) < l.length → pnK (l.getD (i : Int).toNat pn0) := fun hi => hk.2 _ (getD_mem (by omega))
  have e1 : (i : Int).toNat = i := Int.toNat_natCast i
  have hbad : ∀ e : Int, i < l.length → e ≠ 0 → panE l i = e → pansE l = e := fun e h h1 h2 => by
    unfold pansE; rw [if_neg (by omega)]
    exact firstAt_eq h p2 h1 h2
  conv => whnf
  repeat' (first
    | (refine CallX.exact (s21 _ (hx (by omega))) rfl rfl ?_; rotate_right; conv => whnf)
    | (refine CallX.exact (s109 _ _ _) rfl rfl ?_; rotate_right; conv => whnf)
    | (refine br_intro (fun hb => ?_) (fun hb => ?_) <;> (try simp only [decide_eq_true_eq, decide_eq_false_iff_not, Bool.not_eq_true', Bool.not_eq_false', Bool.and_eq_true, Bool.or_eq_true, beq_iff_eq, not_and, Int.not_le, Int.not_lt, Int.toNat_natCast, beq_eq_false_iff_ne, ne_eq, eq_self, not_true_eq_false, not_false_eq_true] at hb) <;> (conv => whnf))
    | omega
    | (refine And.intro ?_ ?_; ((try dsimp only); first | omega | (refine ⟨by omega, by omega, Int.le_trans (Int.mul_le_mul_of_nonneg_right (Int.ofNat_le.2 (Nat.le_of_ble_eq_true (rfl : Nat.ble _ 1024 = true))) (by omega)) (by omega), by omega⟩) | (refine Nat.le_trans (Nat.mul_le_mul_left _ (Nat.le_of_ble_eq_true (rfl : Nat.ble _ 1024 = true))) ?_; omega) | (unfold inI64; omega) | (constructor <;> omega) | (simp only [inI64, List.length_cons, List.length_append, List.length_nil, List.length_set] at *; omega) | decide | (unfold inI64; decide)); conv => whnf)
    | omega | decide | assumption)
  all_goals first
    | (refine ⟨i + 1, ⟨by omega, first_step p2 (by clear p2 hbad hk hx; simp only [e1] at *; unfold panE strLe; grind)⟩, by omega, Entails.mk' [] rfl rfl ⟨(by rw [show (if i + 1 = 0 then ([] : List UInt8) else (l.getD (i + 1 - 1) pn0).key) = (l.getD (i : Int).toNat pn0).key from by rw [if_neg (by omega), e1, Nat.add_sub_cancel]]; exact SV.le_refl _), SV.le_refl _, SV.le_refl _, SV.le_refl _, trivial⟩ trivial⟩)
    | (refine .ret _ ?_
       conv => whnf
       refine ⟨[], ⟨?_, rfl⟩, trivial⟩
       conv => lhs; whnf
       congr 2
       first
         | exact (hbad _ (by omega) (by decide) (by clear p2 hbad hk hx; simp only [e1] at *; unfold panE strLe; grind [isKey_nil, less_nil])).symm
         | (have : i = l.length := by omega
            subst this
            unfold pansE; rw [if_neg (by omega), firstAt_zero p2]))
def rulE (r : Rul) : Int := if (0 ≤ r.near ∧ r.near ≤ 5000) ∧ (0 ≤ r.join ∧ r.join ≤ 5000) ∧ (0 ≤ r.slack ∧ r.slack ≤ 2000) ∧ (0 ≤ r.part ∧ r.part ≤ 1000) then 0 else 1
-- mark.CheckRules
theorem s102 (r : Rul) : FSpec Tryd.prog 102 [.agg ((ruF r).map .d)] [] (fun x o => x = .d (.int .i64 (rulE r)) ∧ o = []) := by
  refine spec_of hT (C := []) Tryd.func102 rfl Tryd.call102 rfl rfl rfl ?_
  conv => whnf
  repeat' (first
    | (refine CallX.exact (s119 _ _ _) rfl rfl ?_; rotate_right; conv => whnf)
    | (refine CallX.exact (s107 _ _) rfl rfl ?_; rotate_right; conv => whnf)
    | (refine br_intro (fun hb => ?_) (fun hb => ?_) <;> (try simp only [decide_eq_true_eq, decide_eq_false_iff_not, Bool.not_eq_true', Bool.not_eq_false', Bool.and_eq_true, Bool.or_eq_true, beq_iff_eq, not_and, Int.not_le, Int.not_lt, Int.toNat_natCast, beq_eq_false_iff_ne, ne_eq, eq_self, not_true_eq_false, not_false_eq_true] at hb) <;> (conv => whnf))
    | omega
    | (refine And.intro ?_ ?_; ((try dsimp only); first | omega | (refine ⟨by omega, by omega, Int.le_trans (Int.mul_le_mul_of_nonneg_right (Int.ofNat_le.2 (Nat.le_of_ble_eq_true (rfl : Nat.ble _ 1024 = true))) (by omega)) (by omega), by omega⟩) | (refine Nat.le_trans (Nat.mul_le_mul_left _ (Nat.le_of_ble_eq_true (rfl : Nat.ble _ 1024 = true))) ?_; omega) | (unfold inI64; omega) | (constructor <;> omega) | (simp only [inI64, List.length_cons, List.length_append, List.length_nil, List.length_set] at *; omega) | decide | (unfold inI64; decide)); conv => whnf)
    | omega | decide | assumption)
  all_goals
    refine .ret _ ?_
    conv => whnf
    refine ⟨[], ⟨?_, rfl⟩, trivial⟩
    conv => lhs; whnf
    congr 2
    unfold rulE; grind
-- RulesFault
theorem s103 (r : Rul) : FSpec Tryd.prog 103 [.agg ((ruF r).map .d)] [] (fun x o => x = .d (.int .i64 (rulE r)) ∧ o = []) := by
  refine spec_of hT (C := []) Tryd.func103 rfl Tryd.call103 rfl rfl rfl ?_
  conv => whnf
  repeat' (first
    | (refine CallX.exact (s109 _ _ _) rfl rfl ?_; rotate_right; conv => whnf)
    | (refine br_intro (fun hb => ?_) (fun hb => ?_) <;> (try simp only [decide_eq_true_eq, decide_eq_false_iff_not, Bool.not_eq_true', Bool.not_eq_false', Bool.and_eq_true, Bool.or_eq_true, beq_iff_eq, not_and, Int.not_le, Int.not_lt, Int.toNat_natCast, beq_eq_false_iff_ne, ne_eq, eq_self, not_true_eq_false, not_false_eq_true] at hb) <;> (conv => whnf))
    | omega
    | (refine And.intro ?_ ?_; ((try dsimp only); first | omega | (refine ⟨by omega, by omega, Int.le_trans (Int.mul_le_mul_of_nonneg_right (Int.ofNat_le.2 (Nat.le_of_ble_eq_true (rfl : Nat.ble _ 1024 = true))) (by omega)) (by omega), by omega⟩) | (refine Nat.le_trans (Nat.mul_le_mul_left _ (Nat.le_of_ble_eq_true (rfl : Nat.ble _ 1024 = true))) ?_; omega) | (unfold inI64; omega) | (constructor <;> omega) | (simp only [inI64, List.length_cons, List.length_append, List.length_nil, List.length_set] at *; omega) | decide | (unfold inI64; decide)); conv => whnf)
    | omega | decide | assumption)
  all_goals
    refine .ret _ ?_
    conv => whnf
    refine ⟨[], ⟨?_, rfl⟩, trivial⟩
    conv => lhs; whnf
    congr 2
    unfold rulE; grind
-- mark.order
theorem s223 (a b : Mrk) : FSpec Tryd.prog 223 [.agg ((mkF a).map .d), .agg ((mkF b).map .d)] [] (fun x r => x = .d (.int .i64 (mrkCmp a b)) ∧ r = []) := by
  refine spec_of hT (C := []) Tryd.func223 rfl Tryd.call223 rfl rfl rfl ?_
  conv => whnf
  repeat' (first
    | (refine CallX.exact (s184 _ _) rfl rfl ?_; rotate_right; conv => whnf)
    | (refine CallX.exact (s183 _ _) rfl rfl ?_; rotate_right; conv => whnf)
    | (refine CallX.pure (s182 [_, _, _, _, _] (by simp)) ⟨SV.le_lit (by rfl) (by rfl), trivial⟩ rfl ?_; conv => whnf)
    | (refine br_intro (fun hb => ?_) (fun hb => ?_) <;> (try simp only [decide_eq_true_eq, decide_eq_false_iff_not, Bool.not_eq_true', Bool.not_eq_false', Bool.and_eq_true, Bool.or_eq_true, beq_iff_eq, not_and, Int.not_le, Int.not_lt, Int.toNat_natCast, beq_eq_false_iff_ne, ne_eq, eq_self, not_true_eq_false, not_false_eq_true] at hb) <;> (conv => whnf))
    | (refine RegX.rule (id := 1) hT rfl [] [(0, []), (1, []), (2, [0, 1]), (3, [0, 1]), (5, [0, 1, 2, 3]), (6, [0, 1, 2, 3]), (7, [0, 1, 2, 3, 5, 6]), (8, [0, 1, 2, 3, 5, 6]), (10, [0, 1, 2, 3, 5, 6, 7, 8]), (11, [0, 1, 2, 3, 5, 6, 7, 8]), (12, [0, 1, 2, 3, 5, 6, 7, 8, 10, 11]), (13, [0, 1, 2, 3, 5, 6, 7, 8, 10, 11]), (15, [0, 1, 2, 3, 5, 6, 7, 8, 10, 11, 12, 13]), (16, [0, 1, 2, 3, 5, 6, 7, 8, 10, 11, 12, 13]), (17, [0, 1, 2, 3, 5, 6, 7, 8, 10, 11, 12, 13, 15, 16]), (18, [0, 1, 2, 3, 5, 6, 7, 8, 10, 11, 12, 13, 15, 16]), (20, [0, 1, 2, 3, 5, 6, 7, 8, 10, 11, 12, 13, 15, 16, 17, 18]), (21, [0, 1, 2, 3, 5, 6, 7, 8, 10, 11, 12, 13, 15, 16, 17, 18]), (22, [0, 1, 2, 3, 5, 6, 7, 8, 10, 11, 12, 13, 15, 16, 17, 18, 20, 21]), (23, [0, 1, 2, 3, 5, 6, 7, 8, 10, 11, 12, 13, 15, 16, 17, 18, 20, 21]), (4, [5, 6, 7, 8, 10, 11, 12, 13, 15, 16, 17, 18, 20, 21, 22, 23]), (9, [10, 11, 12, 13, 15, 16, 17, 18, 20, 21, 22, 23]), (14, [15, 16, 17, 18, 20, 21, 22, 23]), (19, [20, 21, 22, 23]), (24, []), (25, []), (26, []), (27, [])] (by decide +kernel) ?_; conv => whnf)
    | omega
    | (refine And.intro ?_ ?_; ((try dsimp only); first | omega | (refine ⟨by omega, by omega, Int.le_trans (Int.mul_le_mul_of_nonneg_right (Int.ofNat_le.2 (Nat.le_of_ble_eq_true (rfl : Nat.ble _ 1024 = true))) (by omega)) (by omega), by omega⟩) | (refine Nat.le_trans (Nat.mul_le_mul_left _ (Nat.le_of_ble_eq_true (rfl : Nat.ble _ 1024 = true))) ?_; omega) | (unfold inI64; omega) | (constructor <;> omega) | (simp only [inI64, List.length_cons, List.length_append, List.length_nil, List.length_set] at *; omega) | decide | (unfold inI64; decide)); conv => whnf)
    | omega | decide | assumption)
  refine .ret _ ?_
  conv => whnf
  refine ⟨[], ⟨?_, rfl⟩, trivial⟩
  conv => lhs; whnf
  rfl
theorem cmpB_S : ∀ (a b : List UInt8), Lib.compareBytes a b = cmpS a b := by
  intro a
  induction a with
  | nil => intro b; cases b <;> simp [Lib.compareBytes, cmpS, Op.bytesLess]
  | cons x a ih =>
    intro b
    cases b with
    | nil => simp [Lib.compareBytes, cmpS, Op.bytesLess]
    | cons y b =>
      have := ih b
      unfold cmpS at this ⊢
      simp only [Lib.compareBytes, Op.bytesLess]
      grind
-- strings.Compare
theorem s190 (a b : List UInt8) : FSpec Tryd.prog 190 [.d (.str a), .d (.str b)] [] (fun x r => x = .d (.int .i64 (cmpS a b)) ∧ r = []) := by
  refine FSpec.ofBelow Tryd.call190 (fun G β w vs _ hl hd => ?_)
  match vs, hl with
  | [u, v], _ =>
    have hu := hd 0 _ _ rfl rfl
    have hv := hd 1 _ _ rfl rfl
    cases hu with | d _ _ hu => cases hu with | str _ =>
    cases hv with | d _ _ hv => cases hv with | str _ =>
    refine ⟨.int .i64 (Lib.compareBytes a b), fun G β => ?_, (Go.Proofs.Any.strings_Compare Go.Proofs.Tryd.lays106 ⟨a.toArray⟩ ⟨b.toArray⟩ w).mono ?_⟩
    · rw [← cmpB_S]; exact .d _ _ (.int _ _)
    · rintro e w' ⟨he, rfl⟩
      exact ⟨he, Below.refl _ _⟩
end Go.Proofs.YtellmmmohdjpeaaDoor
set_option maxRecDepth 20000
namespace Go.Proofs.YtellmmmohdjpeaaDoor
open Go Go.Eng
-- mark.formed
theorem s192 (l : List Mrk) (hk : mkOk l) : FSpec Tryd.prog 192 [.d (mrks l)] [] (fun x r => x = .d (.int .i64 (mrksE l)) ∧ r = []) := by
  refine spec_of hT (C := []) Tryd.func192 rfl Tryd.call192 rfl rfl rfl ?_
  conv => whnf
  refine br_intro (fun h0 => ?_) (fun h0 => ?_)
  · simp at h0
    conv => whnf
    refine .ret _ ?_
    conv => whnf
    refine ⟨[], ⟨?_, rfl⟩, trivial⟩
    conv => lhs; whnf
    unfold mrksE; rw [if_pos (by omega)]
  simp at h0
  conv => whnf
  refine LoopX.rule hT (C := []) (ι := Nat) (fun i => i ≤ l.length ∧ ∀ j, j < i → mrkE l j = 0) (fun i => mkSt [(0, .d (mrks l)), (8, .d (mrks l)), (9, .d (.int .i64 l.length)), (10, .d (.int .i64 i))] []) (fun i => l.length - i) 0 ⟨by omega, by omega⟩ (by refine Entails.mk' [] rfl rfl ?_ ?_ <;> repeat' (first | exact True.intro | exact SV.le_refl _ | exact Res.le_refl _ | exact SV.le_int (by omega) | exact SV.le_any _ | refine And.intro ?_ ?_)) ?_
  rintro i ⟨p1, p2⟩
  have hx : (i : Int) < l.length → mkK (l.getD (i : Int).toNat mk0) := fun hi => hk.2 _ (getD_mem (by omega))
  have e1 : (i : Int).toNat = i := Int.toNat_natCast i
  have hbad : ∀ e : Int, i < l.length → e ≠ 0 → mrkE l i = e → mrksE l = e := fun e h h1 h2 => by
    unfold mrksE; rw [if_neg (by omega)]
    exact firstAt_eq h p2 h1 h2
  conv => whnf
  repeat' (first
    | (refine CallX.exact (s108 _ (hx (by omega))) rfl rfl ?_; rotate_right; conv => whnf)
    | (refine CallX.exact (s119 _ _ _) rfl rfl ?_; rotate_right; conv => whnf)
    | (refine CallX.exact (s223 (l.getD ((i : Int) - 1).toNat mk0) (l.getD (i : Int).toNat mk0)) rfl rfl ?_; rotate_right; conv => whnf)
    | (refine br_intro (fun hb => ?_) (fun hb => ?_) <;> (try simp only [decide_eq_true_eq, decide_eq_false_iff_not, Bool.not_eq_true', Bool.not_eq_false', Bool.and_eq_true, Bool.or_eq_true, beq_iff_eq, not_and, Int.not_le, Int.not_lt, Int.toNat_natCast, beq_eq_false_iff_ne, ne_eq, eq_self, not_true_eq_false, not_false_eq_true] at hb) <;> (conv => whnf))
    | (refine RegX.rule (id := 12) hT rfl [] [(0, []), (1, []), (2, []), (3, []), (4, [3]), (5, [3]), (6, []), (7, []), (8, [3, 4, 5, 6, 7]), (9, []), (10, []), (11, []), (12, [])] (by decide +kernel) ?_; conv => whnf)
    | omega
    | (refine And.intro ?_ ?_; ((try dsimp only); first | omega | (refine ⟨by omega, by omega, Int.le_trans (Int.mul_le_mul_of_nonneg_right (Int.ofNat_le.2 (Nat.le_of_ble_eq_true (rfl : Nat.ble _ 1024 = true))) (by omega)) (by omega), by omega⟩) | (refine Nat.le_trans (Nat.mul_le_mul_left _ (Nat.le_of_ble_eq_true (rfl : Nat.ble _ 1024 = true))) ?_; omega) | (unfold inI64; omega) | (constructor <;> omega) | (simp only [inI64, List.length_cons, List.length_append, List.length_nil, List.length_set] at *; omega) | decide | (unfold inI64; decide)); conv => whnf)
    | omega | decide | assumption)
  all_goals first
    | (refine ⟨i + 1, ⟨by omega, first_step p2 (by clear p2 hbad hk hx; simp only [e1, toNat_pred] at *; unfold mrkE ; grind)⟩, by omega, (by refine Entails.mk' [] rfl rfl ?_ ?_ <;> repeat' (first | exact True.intro | exact SV.le_refl _ | exact Res.le_refl _ | exact SV.le_int (by omega) | exact SV.le_any _ | refine And.intro ?_ ?_))⟩)
    | (refine .ret _ ?_
       conv => whnf
       refine ⟨[], ⟨?_, rfl⟩, trivial⟩
       conv => lhs; whnf
       congr 2
       first
         | exact (hbad _ (by omega) (by decide) (by clear p2 hbad hk hx; simp only [e1, toNat_pred] at *; unfold mrkE ; grind)).symm
         | (have : i = l.length := by omega
            subst this
            unfold mrksE; rw [if_neg (by omega), firstAt_zero p2]))
def mcell (m : Mrk) : Res := .cells 247 ((mkF m).map .d)
theorem s194 (p : Pnl) (m : Mrk) : FSpec Tryd.prog 194 [.agg ((pnF p).map .d), .ptr 1000001 0] [(1000001, mcell m)] (fun x r => x = .d (.bool (p.key == m.pan)) ∧ r = [(1000001, mcell m)]) := by
  refine spec_of hT (C := []) Tryd.func194 rfl Tryd.call194 rfl rfl rfl ?_
  conv => whnf
  refine .ret _ ?_
  conv => whnf
  exact ⟨[(1000001, mcell m)], ⟨rfl, rfl⟩, Res.le_refl _, trivial⟩
theorem s196 (p : Pnl) (m : Mrk) : FSpec Tryd.prog 196 [.agg ((pnF p).map .d), .ptr 1000001 0] [(1000001, mcell m)] (fun x r => x = .d (.bool (p.key == m.pan)) ∧ r = [(1000001, mcell m)]) := by
  refine spec_of hT (C := []) Tryd.func196 rfl Tryd.call196 rfl rfl rfl ?_
  conv => whnf
  refine .ret _ ?_
  conv => whnf
  exact ⟨[(1000001, mcell m)], ⟨rfl, rfl⟩, Res.le_refl _, trivial⟩
-- slices.IndexFunc of panels
theorem s193 (g : FuncId) (l : List Pnl) (hl : l.length ≤ 2^40) (m : Mrk)
    (hg : ∀ p, FSpec Tryd.prog g [.agg ((pnF p).map .d), .ptr 1000001 0] [(1000001, mcell m)] (fun x r => x = .d (.bool (p.key == m.pan)) ∧ r = [(1000001, mcell m)])) :
    FSpec Tryd.prog 193 [.d (pnls l), .fn g [.ptr 1000001 0]] [(1000001, mcell m)] (fun x r => x = .d (.int .i64 (panIx l m.pan)) ∧ r = [(1000001, mcell m)]) := by
  refine spec_of hT (C := []) Tryd.func193 rfl Tryd.call193 rfl rfl rfl ?_
  conv => whnf
  refine LoopX.rule hT (C := []) (ι := Nat) (fun i => i ≤ l.length ∧ ∀ j, j < i → ((l.getD j pn0).key == m.pan) = false) (fun i => mkSt [(0, .d (pnls l)), (1, .fn g [.ptr 1000001 0]), (7, .d (.int .i64 l.length)), (8, .d (.int .i64 i))] [(1000001, mcell m)]) (fun i => l.length - i) 0 ⟨by omega, by omega⟩ (by refine Entails.mk' [(1000001, 1000001)] rfl rfl ?_ ?_ <;> repeat' (first | exact True.intro | exact SV.le_refl _ | exact Res.le_refl _ | exact SV.le_int (by omega) | exact SV.le_any _ | refine And.intro ?_ ?_)) ?_
  rintro i ⟨p1, p2⟩
  have e1 : (i : Int).toNat = i := Int.toNat_natCast i
  conv => whnf
  repeat' (first
    | (refine CallX.of (hg (l.getD (i : Int).toNat pn0)) [(1000001, 1000001)] rfl ⟨SV.le_refl _, SV.le_refl _, trivial⟩ ⟨Res.le_refl _, trivial⟩ rfl rfl ?_; rintro x rout ⟨rfl, rfl⟩; refine ⟨rfl, ?_⟩; conv => whnf)
    | (refine br_intro (fun hb => ?_) (fun hb => ?_) <;> (try simp only [decide_eq_true_eq, decide_eq_false_iff_not, Bool.not_eq_true', Bool.not_eq_false', Bool.and_eq_true, Bool.or_eq_true, beq_iff_eq, not_and, Int.not_le, Int.not_lt, Int.toNat_natCast, beq_eq_false_iff_ne, ne_eq, eq_self, not_true_eq_false, not_false_eq_true] at hb) <;> (conv => whnf))
    | omega
    | (refine And.intro ?_ ?_; ((try dsimp only); first | omega | (refine ⟨by omega, by omega, Int.le_trans (Int.mul_le_mul_of_nonneg_right (Int.ofNat_le.2 (Nat.le_of_ble_eq_true (rfl : Nat.ble _ 1024 = true))) (by omega)) (by omega), by omega⟩) | (refine Nat.le_trans (Nat.mul_le_mul_left _ (Nat.le_of_ble_eq_true (rfl : Nat.ble _ 1024 = true))) ?_; omega) | (unfold inI64; omega) | (constructor <;> omega) | (simp only [inI64, List.length_cons, List.length_append, List.length_nil, List.length_set] at *; omega) | decide | (unfold inI64; decide)); conv => whnf)
    | omega | decide | assumption)
  · refine .ret _ ?_
    conv => whnf
    refine ⟨[(1000001, mcell m)], ⟨?_, rfl⟩, Res.le_refl _, trivial⟩
    conv => lhs; whnf
    congr 2
    exact (ixF_hit (by omega) p2 (by simpa using hb)).symm
  · exact ⟨i + 1, ⟨by omega, all_step p2 (by simpa using hb)⟩, by omega, (by refine Entails.mk' [(1000001, 1000001)] rfl rfl ?_ ?_ <;> repeat' (first | exact True.intro | exact SV.le_refl _ | exact Res.le_refl _ | exact SV.le_int (by omega) | exact SV.le_any _ | refine And.intro ?_ ?_))⟩
  · refine .ret _ ?_
    conv => whnf
    refine ⟨[(1000001, mcell m)], ⟨?_, rfl⟩, Res.le_refl _, trivial⟩
    conv => lhs; whnf
    congr 2
    have : i = l.length := by omega
    subst this
    exact (ixF_none p2).symm
theorem panIx_lt (p : List Pnl) (key : List UInt8) : panIx p key < p.length := (ixF_bd (p := fun i => (p.getD i pn0).key == key) (n := p.length)).2.1
theorem runM_le (l : List Mrk) : ∀ i, runM l i ≤ i + 1 := by
  intro i
  induction i with
  | zero => simp [runM]
  | succ i ih => rw [runM]; split <;> omega
def prevR (l : List Mrk) (i : Nat) : Int := if i = 0 then 0 else runM l (i - 1)
-- mark.onPanels
theorem s159 (p : List Pnl) (l : List Mrk) (hp : p.length ≤ 2^40) (hk : mkOk l) : FSpec Tryd.prog 159 [.d (pnls p), .d (mrks l)] [] (fun x r => x = .d (.int .i64 (onPE p l)) ∧ r = []) := by
  refine spec_of hT (C := []) Tryd.func159 rfl Tryd.call159 rfl rfl rfl ?_
  conv => whnf
  repeat' (first
    | (refine CallX.exact (s192 l hk) rfl rfl ?_; rotate_right; conv => whnf)
    | (refine br_intro (fun hb => ?_) (fun hb => ?_) <;> (try simp only [decide_eq_true_eq, decide_eq_false_iff_not, Bool.not_eq_true', Bool.not_eq_false', Bool.and_eq_true, Bool.or_eq_true, beq_iff_eq, not_and, Int.not_le, Int.not_lt, Int.toNat_natCast, beq_eq_false_iff_ne, ne_eq, eq_self, not_true_eq_false, not_false_eq_true] at hb) <;> (conv => whnf))
    | (refine RegX.rule (id := 10) hT rfl [] [(0, []), (1, []), (2, [0, 1]), (3, [0, 1, 2]), (4, [0, 1]), (5, [0, 1]), (6, [0, 1]), (7, []), (8, []), (9, []), (10, []), (11, [9, 10]), (12, [9, 10, 11]), (13, [9, 10]), (14, [9, 10]), (15, [9, 10]), (16, []), (17, []), (18, [])] (by decide +kernel) ?_; conv => whnf)
    | (refine RegX.rule (id := 17) hT rfl [] [(0, []), (1, []), (2, []), (3, []), (4, []), (5, [3, 4]), (6, [3, 4, 5]), (7, [3, 4, 5]), (8, [3, 4]), (9, [3, 4]), (10, [3, 4]), (11, []), (12, []), (13, []), (14, []), (15, [13, 14]), (16, [13, 14, 15]), (17, [13, 14, 15]), (18, [13, 14]), (19, [13, 14]), (20, [13, 14]), (21, []), (22, []), (23, [])] (by decide +kernel) ?_; conv => whnf)
    | omega
    | (refine And.intro ?_ ?_; ((try dsimp only); first | omega | (refine ⟨by omega, by omega, Int.le_trans (Int.mul_le_mul_of_nonneg_right (Int.ofNat_le.2 (Nat.le_of_ble_eq_true (rfl : Nat.ble _ 1024 = true))) (by omega)) (by omega), by omega⟩) | (refine Nat.le_trans (Nat.mul_le_mul_left _ (Nat.le_of_ble_eq_true (rfl : Nat.ble _ 1024 = true))) ?_; omega) | (unfold inI64; omega) | (constructor <;> omega) | (simp only [inI64, List.length_cons, List.length_append, List.length_nil, List.length_set] at *; omega) | decide | (unfold inI64; decide)); conv => whnf)
    | omega | decide | assumption)
  · refine .ret _ ?_
    conv => whnf
    refine ⟨[], ⟨?_, rfl⟩, trivial⟩
    conv => lhs; whnf
    congr 2; unfold onPE; rw [if_pos hb]
  have hm : mrksE l = 0 := by omega
  have hE : onPE p l = if firstAt (onE p l) l.length ≠ 0 then firstAt (onE p l) l.length else firstAt (fullE l) l.length := by unfold onPE; rw [if_neg (by omega)]
  rw [hE]
  have hl60 : l.length ≤ 60 := by unfold mrksE at hm; split at hm; cases hm; omega
  refine LoopX.rule hT (C := []) (ι := Nat) (fun i => i ≤ l.length ∧ ∀ j, j < i → onE p l j = 0) (fun i => mkSt [(0, .d (pnls p)), (1, .d (mrks l)), (17, .d (mrks l)), (18, .d (.int .i64 l.length)), (19, .d (.int .i64 i))] []) (fun i => l.length - i) 0 ⟨by omega, by omega⟩ (by refine Entails.mk' [] rfl rfl ?_ ?_ <;> repeat' (first | exact True.intro | exact SV.le_refl _ | exact Res.le_refl _ | exact SV.le_int (by omega) | exact SV.le_any _ | refine And.intro ?_ ?_)) ?_
  rintro i ⟨p1, p2⟩
  have e1 : (i : Int).toNat = i := Int.toNat_natCast i
  have hbad : ∀ e : Int, i < l.length → e ≠ 0 → onE p l i = e → firstAt (onE p l) l.length = e := fun e h h1 h2 => firstAt_eq h p2 h1 h2
  have hix := panIx_lt p (l.getD i mk0).pan
  conv => whnf
  repeat' (first
    | (refine CallX.of (s193 194 p hp (l.getD i mk0) (fun q => s194 q _)) [(1000001, 7)] rfl ⟨SV.le_refl _, SV.le_refl _, trivial⟩ ⟨Res.le_refl _, trivial⟩ rfl rfl ?_; rintro x rout ⟨rfl, rfl⟩; refine ⟨rfl, ?_⟩; conv => whnf)
    | (refine br_intro (fun hb => ?_) (fun hb => ?_) <;> (try simp only [decide_eq_true_eq, decide_eq_false_iff_not, Bool.not_eq_true', Bool.not_eq_false', Bool.and_eq_true, Bool.or_eq_true, beq_iff_eq, not_and, Int.not_le, Int.not_lt, Int.toNat_natCast, beq_eq_false_iff_ne, ne_eq, eq_self, not_true_eq_false, not_false_eq_true] at hb) <;> (conv => whnf))
    | (refine RegX.rule (id := 10) hT rfl [] [(0, []), (1, []), (2, [0, 1]), (3, [0, 1, 2]), (4, [0, 1]), (5, [0, 1]), (6, [0, 1]), (7, []), (8, []), (9, []), (10, []), (11, [9, 10]), (12, [9, 10, 11]), (13, [9, 10]), (14, [9, 10]), (15, [9, 10]), (16, []), (17, []), (18, [])] (by decide +kernel) ?_; conv => whnf)
    | (refine RegX.rule (id := 17) hT rfl [] [(0, []), (1, []), (2, []), (3, []), (4, []), (5, [3, 4]), (6, [3, 4, 5]), (7, [3, 4, 5]), (8, [3, 4]), (9, [3, 4]), (10, [3, 4]), (11, []), (12, []), (13, []), (14, []), (15, [13, 14]), (16, [13, 14, 15]), (17, [13, 14, 15]), (18, [13, 14]), (19, [13, 14]), (20, [13, 14]), (21, []), (22, []), (23, [])] (by decide +kernel) ?_; conv => whnf)
    | omega
    | (refine And.intro ?_ ?_; ((try dsimp only); first | omega | (refine ⟨by omega, by omega, Int.le_trans (Int.mul_le_mul_of_nonneg_right (Int.ofNat_le.2 (Nat.le_of_ble_eq_true (rfl : Nat.ble _ 1024 = true))) (by omega)) (by omega), by omega⟩) | (refine Nat.le_trans (Nat.mul_le_mul_left _ (Nat.le_of_ble_eq_true (rfl : Nat.ble _ 1024 = true))) ?_; omega) | (unfold inI64; omega) | (constructor <;> omega) | (simp only [inI64, List.length_cons, List.length_append, List.length_nil, List.length_set] at *; omega) | decide | (unfold inI64; decide)); conv => whnf)
    | omega | decide | assumption)
  · refine .ret _ ?_
    conv => whnf
    refine ⟨[], ⟨?_, rfl⟩, trivial⟩
    conv => lhs; whnf
    congr 2
    have := hbad 8 (by omega) (by decide) (by clear p2 hbad; unfold onE; simp only; rw [if_pos (by omega)])
    rw [this, if_pos (by decide)]
  · refine .ret _ ?_
    conv => whnf
    refine ⟨[], ⟨?_, rfl⟩, trivial⟩
    conv => lhs; whnf
    congr 2
    have := hbad 1 (by omega) (by decide) (by clear p2 hbad; unfold onE; simp only; grind)
    rw [this, if_pos (by decide)]
  · refine .ret _ ?_
    conv => whnf
    refine ⟨[], ⟨?_, rfl⟩, trivial⟩
    conv => lhs; whnf
    congr 2
    have := hbad 1 (by omega) (by decide) (by clear p2 hbad; unfold onE; simp only; grind)
    rw [this, if_pos (by decide)]
  · refine ⟨i + 1, ⟨by omega, first_step p2 (by clear p2 hbad; unfold onE; grind)⟩, by omega, (by refine Entails.mk' [] rfl rfl ?_ ?_ <;> repeat' (first | exact True.intro | exact SV.le_refl _ | exact Res.le_refl _ | exact SV.le_int (by omega) | exact SV.le_any _ | refine And.intro ?_ ?_))⟩
  have hi : i = l.length := by omega
  rw [hi] at p2
  rw [firstAt_zero p2, if_neg (by decide)]
  refine LoopX.rule hT (C := []) (ι := Nat) (fun i => i ≤ l.length ∧ ∀ j, j < i → fullE l j = 0) (fun i => mkSt [(1, .d (mrks l)), (9, .d (.int .i64 (prevR l i))), (49, .d (mrks l)), (50, .d (.int .i64 l.length)), (51, .d (.int .i64 i))] []) (fun i => l.length - i) 0 ⟨by omega, by omega⟩ (by refine Entails.mk' [] rfl rfl ?_ ?_ <;> repeat' (first | exact True.intro | exact SV.le_refl _ | exact Res.le_refl _ | exact SV.le_int (by omega) | exact SV.le_any _ | refine And.intro ?_ ?_)) ?_
  rintro i ⟨p1, p2⟩
  have e1 : (i : Int).toNat = i := Int.toNat_natCast i
  have hpr : 0 ≤ prevR l i ∧ prevR l i ≤ i := by
    unfold prevR
    split
    · omega
    · have := runM_le l (i - 1); omega
  have hst : ∀ b : Int, b = runM l i → b ≤ 6 → fullE l i = 0 := fun b h1 h2 => by unfold fullE; rw [if_neg (by omega)]
  have hbad : ∀ b : Int, i < l.length → b = runM l i → 6 < b → firstAt (fullE l) l.length = 12 := fun b h0 h1 h2 => firstAt_eq h0 p2 (by decide) (by unfold fullE; rw [if_pos (by omega)])
  have hzero : i = 0 → (1 : Int) = runM l i := fun h => by subst h; rfl
  have hsame : 0 < i → sameM (l.getD i mk0) (l.getD (i - 1) mk0) = true → prevR l i + 1 = runM l i := fun h h1 => by
    obtain ⟨k, rfl⟩ : ∃ k, i = k + 1 := ⟨i - 1, by omega⟩
    simp only [Nat.add_sub_cancel] at h1
    rw [runM, if_pos h1]; simp [prevR]
  have hdiff : 0 < i → ¬ sameM (l.getD i mk0) (l.getD (i - 1) mk0) = true → (1 : Int) = runM l i := fun h h1 => by
    obtain ⟨k, rfl⟩ : ∃ k, i = k + 1 := ⟨i - 1, by omega⟩
    simp only [Nat.add_sub_cancel] at h1
    rw [runM, if_neg h1]; rfl
  have hnext : prevR l (i + 1) = runM l i := by simp [prevR]
  have hp0 : i = 0 → prevR l i = 0 := fun h => by subst h; rfl
  unfold sameM at hsame hdiff
  conv => whnf
  repeat' (first
    | (refine br_intro (fun hb => ?_) (fun hb => ?_) <;> (try simp only [decide_eq_true_eq, decide_eq_false_iff_not, Bool.not_eq_true', Bool.not_eq_false', Bool.and_eq_true, Bool.or_eq_true, beq_iff_eq, not_and, Int.not_le, Int.not_lt, Int.toNat_natCast, beq_eq_false_iff_ne, ne_eq, eq_self, not_true_eq_false, not_false_eq_true] at hb) <;> (conv => whnf))
    | (refine RegX.rule (id := 10) hT rfl [] [(0, []), (1, []), (2, [0, 1]), (3, [0, 1, 2]), (4, [0, 1]), (5, [0, 1]), (6, [0, 1]), (7, []), (8, []), (9, []), (10, []), (11, [9, 10]), (12, [9, 10, 11]), (13, [9, 10]), (14, [9, 10]), (15, [9, 10]), (16, []), (17, []), (18, [])] (by decide +kernel) ?_; conv => whnf)
    | (refine RegX.rule (id := 17) hT rfl [] [(0, []), (1, []), (2, []), (3, []), (4, []), (5, [3, 4]), (6, [3, 4, 5]), (7, [3, 4, 5]), (8, [3, 4]), (9, [3, 4]), (10, [3, 4]), (11, []), (12, []), (13, []), (14, []), (15, [13, 14]), (16, [13, 14, 15]), (17, [13, 14, 15]), (18, [13, 14]), (19, [13, 14]), (20, [13, 14]), (21, []), (22, []), (23, [])] (by decide +kernel) ?_; conv => whnf)
    | omega
    | (refine And.intro ?_ ?_; ((try dsimp only); first | omega | (refine ⟨by omega, by omega, Int.le_trans (Int.mul_le_mul_of_nonneg_right (Int.ofNat_le.2 (Nat.le_of_ble_eq_true (rfl : Nat.ble _ 1024 = true))) (by omega)) (by omega), by omega⟩) | (refine Nat.le_trans (Nat.mul_le_mul_left _ (Nat.le_of_ble_eq_true (rfl : Nat.ble _ 1024 = true))) ?_; omega) | (unfold inI64; omega) | (constructor <;> omega) | (simp only [inI64, List.length_cons, List.length_append, List.length_nil, List.length_set] at *; omega) | decide | (unfold inI64; decide)); conv => whnf)
    | omega | decide | assumption)
  all_goals try simp only [toNat_pred] at *
  all_goals first
    | (have hv : prevR l i + 1 = runM l i := by clear hst hbad p2 hnext; grind
       first
         | exact ⟨i + 1, ⟨by omega, first_step p2 (hst _ hv (by omega))⟩, by omega, Entails.mk' [] rfl rfl ⟨SV.le_refl _, SV.le_int (by rw [hnext]; exact hv), SV.le_refl _, SV.le_refl _, SV.le_refl _, trivial⟩ trivial⟩
         | (refine .ret _ ?_
            conv => whnf
            refine ⟨[], ⟨?_, rfl⟩, trivial⟩
            conv => lhs; whnf
            congr 2
            rw [hbad _ (by omega) hv (by omega)]))
    | (have hv : (0 : Int) + 1 = runM l i := by clear hst hbad p2 hnext; grind
       exact ⟨i + 1, ⟨by omega, first_step p2 (hst _ hv (by omega))⟩, by omega, Entails.mk' [] rfl rfl ⟨SV.le_refl _, SV.le_int (by rw [hnext]; exact hv), SV.le_refl _, SV.le_refl _, SV.le_refl _, trivial⟩ trivial⟩)
    | (refine .ret _ ?_
       conv => whnf
       refine ⟨[], ⟨?_, rfl⟩, trivial⟩
       conv => lhs; whnf
       congr 2
       have : i = l.length := by omega
       subst this
       rw [firstAt_zero p2])
end Go.Proofs.YtellmmmohdjpeaaDoor
