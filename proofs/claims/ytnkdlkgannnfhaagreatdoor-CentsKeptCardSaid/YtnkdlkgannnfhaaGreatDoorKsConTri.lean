/- CentsKept is proved: for every input the law returns true, and its argument reads afterwards as it read before. Conditions: those of the given row alone. -/
import Derived.Test.YtnkdlkgannnfhaaGreatDoorKsConTwo
import Derived.Test.YtnkdlkgannnfhaaGreatDoorKsConOne
import Derived.Shelf.Spec.SlicesGrow
import Derived.Test.YtnkdlkgannnfhaaGreatDoorKsEngTwo
set_option linter.unusedVariables false
set_option linter.unusedSimpArgs false
set_option maxRecDepth 20000
namespace Go.Proofs.YtnkdlkgannnfhaaGreatDoor
open Go Go.Eng
def onRd (l : List Roa) (a b : List UInt8) (i : Nat) : Bool := (l.getD i rd0).a == a && (l.getD i rd0).b == b
/-- The number of a road, or -1. -/
def roadX (l : List Roa) (a b : List UInt8) : Int := ixF (onRd l a b) l.length
theorem endsC_self (a b : List UInt8) : endsC a b a b = 0 := by
  unfold endsC
  simp [firstE, cmpS, less_irr]
theorem rds_all {l : List Roa} (h : rdsE l = 0) : l.length ≤ 2500 ∧ ∀ i, i < l.length → rdE l i = 0 := by
  unfold rdsE at h
  split at h
  · cases h
  · exact ⟨by omega, firstAt_all h⟩
def endLt (a b c d : List UInt8) : Prop := Op.bytesLess a c = true ∨ (a = c ∧ Op.bytesLess b d = true)
theorem endLt_of {a b c d : List UInt8} (h : endsC a b c d < 0) : endLt a b c d := by
  unfold endsC at h
  simp only [firstE, cmpS] at h
  unfold endLt
  by_cases q : Op.bytesLess a c = true
  · exact .inl q
  · have q' : Op.bytesLess a c = false := by simpa using q
    by_cases e : a = c
    · subst e
      refine .inr ⟨rfl, ?_⟩
      simp only [less_irr] at h
      grind
    · have := less_tri _ _ q' e
      simp [q', this] at h
theorem endLt_trans {a b c d e f : List UInt8} (h : endLt a b c d) (k : endLt c d e f) : endLt a b e f := by
  unfold endLt at *
  rcases h with h | ⟨rfl, h⟩ <;> rcases k with k | ⟨rfl, k⟩
  · exact .inl (less_trans h k)
  · exact .inl h
  · exact .inl k
  · exact .inr ⟨rfl, less_trans h k⟩
theorem endLt_irr {a b : List UInt8} : ¬ endLt a b a b := by
  unfold endLt; simp [less_irr]
theorem rds_inc {l : List Roa} (h : rdsE l = 0) : ∀ {j i : Nat}, i < j → j < l.length → endLt (l.getD i rd0).a (l.getD i rd0).b (l.getD j rd0).a (l.getD j rd0).b := by
  obtain ⟨_, h2⟩ := rds_all h
  have step : ∀ j, j + 1 < l.length → endLt (l.getD j rd0).a (l.getD j rd0).b (l.getD (j + 1) rd0).a (l.getD (j + 1) rd0).b := fun j hj => by
    have := h2 (j + 1) hj
    unfold rdE at this
    simp only [Nat.add_sub_cancel] at this
    refine endLt_of ?_
    grind
  intro j
  induction j with
  | zero => intro i h; omega
  | succ j ih =>
    intro i hi hj
    by_cases q : i = j
    · subst q; exact step i hj
    · exact endLt_trans (ih (by omega) (by omega)) (step j hj)
theorem rd_inj {l : List Roa} (h : rdsE l = 0) {i j : Nat} {a b : List UInt8} (hi : i < l.length) (hj : j < l.length) (h1 : onRd l a b i = true) (h2 : onRd l a b j = true) : i = j := by
  simp [onRd] at h1 h2
  rcases Nat.lt_trichotomy i j with q | q | q
  · have := rds_inc h q hj
    simp only [List.getD_eq_getElem?_getD] at this
    rw [h1.1, h1.2, h2.1, h2.2] at this
    exact absurd this endLt_irr
  · exact q
  · have := rds_inc h q hi
    simp only [List.getD_eq_getElem?_getD] at this
    rw [h1.1, h1.2, h2.1, h2.2] at this
    exact absurd this endLt_irr
theorem rd_bd {l : List Roa} (h : rdsE l = 0) {i : Nat} (hi : i < l.length) : (0 ≤ (l.getD i rd0).car ∧ (l.getD i rd0).car ≤ 1000000) ∧ 0 ≤ (l.getD i rd0).ride ∧ (l.getD i rd0).ride ≤ 1000000 := by
  have := (rds_all h).2 i hi
  unfold rdE at this
  simp only at this
  grind
theorem ixF_pos {p : Nat → Bool} {n k : Nat} (hk : k < n) (h : p k = true) : 0 ≤ ixF p n := by
  have hb := ixF_bd (p := p) (n := n)
  rcases Int.lt_or_le (ixF p n) 0 with q | q
  · exfalso
    have hn : ∀ m, ixF p m < 0 → ∀ j, j < m → p j = false := by
      intro m
      induction m with
      | zero => intro _ j hj; omega
      | succ m ih =>
        intro hm j hj
        rw [ixF] at hm
        split at hm
        · rename_i hz
          by_cases hjm : j = m
          · subst hjm
            split at hm
            · omega
            · rename_i hf; simpa using hf
          · exact ih (by omega) j (by omega)
        · rename_i hz; have := (ixF_bd (p := p) (n := m)).1; omega
    rw [hn n q k hk] at h
    cases h
  · exact q
theorem roadX_bd (l : List Roa) (a b : List UInt8) : -1 ≤ roadX l a b ∧ roadX l a b < l.length ∧ (0 ≤ roadX l a b → onRd l a b (roadX l a b).toNat = true) := ixF_bd
theorem roadX_eq {l : List Roa} (h : rdsE l = 0) {a b : List UInt8} {i : Nat} (hi : i < l.length) (h1 : onRd l a b i = true) : roadX l a b = i := by
  have hb := roadX_bd l a b
  have h0 : 0 ≤ roadX l a b := ixF_pos hi h1
  have := rd_inj h (i := (roadX l a b).toNat) (by omega) hi (hb.2.2 h0) h1
  omega
def roadO (l : List Roa) (a b : List UInt8) : Option Roa := if 0 ≤ roadX l a b then some (l.getD (roadX l a b).toNat rd0) else none
theorem roadO_bd {l : List Roa} (h : rdsE l = 0) {a b : List UInt8} {x : Roa} (hx : roadO l a b = some x) : (0 ≤ x.car ∧ x.car ≤ 1000000) ∧ 0 ≤ x.ride ∧ x.ride ≤ 1000000 := by
  unfold roadO at hx
  have := roadX_bd l a b
  split at hx
  · cases hx
    exact rd_bd h (by omega)
  · cases hx
theorem keyRd (l : List Roa) (a b : List UInt8) (n : Nat) : keyEq [.str a, .str b] [.str (l.getD n rd0).a, .str (l.getD n rd0).b] = onRd l a b n := by
  simp only [keyEq, keyEq1, onRd, Bool.and_true]
  generalize l.getD n rd0 = x
  rw [Bool.beq_comm (a := a), Bool.beq_comm (a := b)]
theorem nHas_eq (l : List Roa) (a b : List UInt8) : ∀ n, nHas l n [.str a, .str b] = true ↔ ∃ i, i < n ∧ onRd l a b i = true := by
  intro n
  induction n with
  | zero => simp [nHas]
  | succ n ih =>
    rw [nHas, Bool.or_eq_true, ih]
    have e : keyEq [.str a, .str b] [.str (l.getD n rd0).a, .str (l.getD n rd0).b] = onRd l a b n := by
      exact keyRd l a b n
    rw [e]
    constructor
    · rintro (q | ⟨i, q1, q2⟩)
      · exact ⟨n, by omega, q⟩
      · exact ⟨i, by omega, q2⟩
    · rintro ⟨i, q1, q2⟩
      by_cases q : i = n
      · subst q; exact .inl q2
      · exact .inr ⟨i, by omega, q2⟩
theorem net_has {l : List Roa} (a b : List UInt8) : nHas l l.length [.str a, .str b] = (roadO l a b).isSome := by
  have hb := roadX_bd l a b
  rw [Bool.eq_iff_iff, nHas_eq]
  unfold roadO
  constructor
  · rintro ⟨i, h1, h2⟩
    have : 0 ≤ roadX l a b := ixF_pos h1 h2
    rw [if_pos this]; rfl
  · intro q
    split at q
    · rename_i h0; exact ⟨(roadX l a b).toNat, by omega, hb.2.2 h0⟩
    · cases q
theorem nVal_eq {l : List Roa} (h : rdsE l = 0) (a b : List UInt8) : ∀ n, n ≤ l.length → (∀ i, i < n → onRd l a b i = true → nVal l n [.str a, .str b] = rdF (l.getD i rd0)) ∧ ((∀ i, i < n → onRd l a b i = false) → nVal l n [.str a, .str b] = rdF rd0) := by
  intro n
  induction n with
  | zero => intro _; exact ⟨fun i hi => by omega, fun _ => rfl⟩
  | succ n ih =>
    intro hn
    have e : keyEq [.str a, .str b] [.str (l.getD n rd0).a, .str (l.getD n rd0).b] = onRd l a b n := by
      exact keyRd l a b n
    obtain ⟨i1, i2⟩ := ih (by omega)
    refine ⟨fun i hi h1 => ?_, fun hn => ?_⟩
    · show (bif keyEq [.str a, .str b] [.str (l.getD n rd0).a, .str (l.getD n rd0).b] then rdF (l.getD n rd0) else nVal l n [.str a, .str b]) = _
      rw [e]
      cases q : onRd l a b n
      · have : i ≠ n := fun q2 => by subst q2; rw [q] at h1; cases h1
        exact i1 i (by omega) h1
      · have := rd_inj h (by omega) (by omega) h1 q
        subst this; rfl
    · show (bif keyEq [.str a, .str b] [.str (l.getD n rd0).a, .str (l.getD n rd0).b] then rdF (l.getD n rd0) else nVal l n [.str a, .str b]) = _
      rw [e, hn n (by omega)]
      exact i2 (fun i hi => hn i (by omega))
theorem net_val {l : List Roa} (h : rdsE l = 0) (a b : List UInt8) : nVal l l.length [.str a, .str b] = rdF ((roadO l a b).getD rd0) := by
  have hb := roadX_bd l a b
  obtain ⟨h1, h2⟩ := nVal_eq h a b l.length (Nat.le_refl _)
  unfold roadO
  split
  · rename_i h0; exact h1 _ (by omega) (hb.2.2 h0)
  · rename_i h0
    refine h2 (fun i hi => ?_)
    rw [← Bool.not_eq_true]
    intro q
    exact h0 (ixF_pos hi q)
def rideO (l : List Roa) (a b : List UInt8) : Option Int := if a = b then some 0 else (roadO l a b).map (·.ride)
def makeO (l : List Roa) (a : List UInt8) (m : Mov) : Option Int := (rideO l a m.a).bind fun n => (roadO l m.a m.b).map fun r => n + r.car
theorem rideO_bd {l : List Roa} (h : rdsE l = 0) {a b : List UInt8} {n : Int} (hn : rideO l a b = some n) : 0 ≤ n ∧ n ≤ 1000000 := by
  unfold rideO at hn
  split at hn
  · cases hn; omega
  · cases q : roadO l a b with
    | none => rw [q] at hn; cases hn
    | some x => rw [q] at hn; cases hn; exact (roadO_bd h q).2
theorem makeO_bd {l : List Roa} (h : rdsE l = 0) {a : List UInt8} {m : Mov} {n : Int} (hn : makeO l a m = some n) : 0 ≤ n ∧ n ≤ 2000000 := by
  unfold makeO at hn
  cases q : rideO l a m.a with
  | none => rw [q] at hn; cases hn
  | some k =>
    cases q2 : roadO l m.a m.b with
    | none => rw [q, q2] at hn; cases hn
    | some x =>
      rw [q, q2] at hn
      cases hn
      have := rideO_bd h q
      have := (roadO_bd h q2).1
      show 0 ≤ k + x.car ∧ k + x.car ≤ _
      omega
abbrev RPt := Option (List UInt8 × Int)
def stepR (l : List Roa) (m : List Mov) (st : RPt) (k : Int) : RPt := st.bind fun p => (makeO l p.1 (m.getD k.toNat mv0)).map fun n => ((m.getD k.toNat mv0).b, p.2 + n)
def partR (l : List Roa) (start : List UInt8) (m : List Mov) (o : List Int) : RPt := o.foldl (stepR l m) (some (start, 0))
def roundO (l : List Roa) (start : List UInt8) (m : List Mov) (o : List Int) : Option Int := (partR l start m o).bind fun p => (rideO l p.1 start).map fun n => p.2 + n
theorem partR_snoc (l : List Roa) (start : List UInt8) (m : List Mov) (o : List Int) (k : Int) : partR l start m (o ++ [k]) = stepR l m (partR l start m o) k := by
  unfold partR; rw [List.foldl_append]; rfl
theorem foldl_none (l : List Roa) (m : List Mov) : ∀ o : List Int, o.foldl (stepR l m) none = none := by
  intro o
  induction o with
  | nil => rfl
  | cons x o ih => exact ih
theorem partR_bd {l : List Roa} (h : rdsE l = 0) {start : List UInt8} {m : List Mov} : ∀ (o : List Int) (c : List UInt8 × Int) (p : List UInt8 × Int), o.foldl (stepR l m) (some c) = some p → c.2 ≤ p.2 ∧ p.2 ≤ c.2 + 2000000 * o.length := by
  intro o
  induction o with
  | nil => intro c p hp; cases hp; simp
  | cons x o ih =>
    intro c p hp
    rw [List.foldl_cons] at hp
    cases q : makeO l c.1 (m.getD x.toNat mv0) with
    | none =>
      have : stepR l m (some c) x = none := by unfold stepR; rw [Option.bind_some, q]; rfl
      rw [this, foldl_none] at hp; cases hp
    | some n =>
      have : stepR l m (some c) x = some ((m.getD x.toNat mv0).b, c.2 + n) := by unfold stepR; rw [Option.bind_some, q]; rfl
      rw [this] at hp
      have h1 := ih _ p hp
      have h2 := makeO_bd h q
      simp only [List.length_cons] at h1 ⊢
      omega
abbrev RSt := List Int × Int
/-- All orders that begin with o: the state is the best one and its cost, or -1. -/
def rs (l : List Roa) (start : List UInt8) (m : List Mov) : Nat → List Int → RSt → RSt
  | 0, o, st => match roundO l start m o with
    | some n => if 0 ≤ st.2 ∧ st.2 ≤ n then st else (o, n)
    | none => st
  | d + 1, o, st => (List.range m.length).foldl (fun (st : RSt) (k : Nat) => if o.contains (k : Int) then st else rs l start m d (o ++ [(k : Int)]) st) st
theorem rs_dead {l : List Roa} {start : List UInt8} {m : List Mov} : ∀ (d : Nat) (o : List Int) (st : RSt), partR l start m o = none → rs l start m d o st = st := by
  intro d
  induction d with
  | zero => intro o st h; rw [rs]; unfold roundO; rw [h]; rfl
  | succ d ih =>
    intro o st h
    rw [rs]
    refine foldl_inv (q := fun s : RSt => s = st) (fun s k _ hs => ?_) rfl
    subst hs
    split
    · rfl
    · exact ih _ _ (by rw [partR_snoc, h]; rfl)
theorem rs_prune {l : List Roa} (hl : rdsE l = 0) {start : List UInt8} {m : List Mov} : ∀ (d : Nat) (o : List Int) (p : List UInt8 × Int) (st : RSt), partR l start m o = some p → 0 ≤ st.2 → st.2 ≤ p.2 → rs l start m d o st = st := by
  intro d
  induction d with
  | zero =>
    intro o p st h h1 h2
    rw [rs]
    unfold roundO
    rw [h, Option.bind_some]
    cases q : rideO l p.1 start with
    | none => rfl
    | some n =>
      have := rideO_bd hl q
      rw [Option.map_some]
      simp only
      rw [if_pos ⟨h1, by omega⟩]
  | succ d ih =>
    intro o p st h h1 h2
    rw [rs]
    refine foldl_inv (q := fun s : RSt => s = st) (fun s k _ hs => ?_) rfl
    subst hs
    split
    · rfl
    · cases q : partR l start m (o ++ [(k : Int)]) with
      | none => exact rs_dead _ _ _ q
      | some p' =>
        refine ih _ p' _ q h1 ?_
        rw [partR_snoc, h] at q
        unfold stepR at q
        rw [Option.bind_some] at q
        cases q2 : makeO l p.1 (m.getD (k : Int).toNat mv0) with
        | none => rw [q2] at q; cases q
        | some n =>
          rw [q2] at q
          cases q
          have := makeO_bd hl q2
          show s.2 ≤ p.2 + n
          omega
theorem rs_len {l : List Roa} {start : List UInt8} {m : List Mov} : ∀ (d : Nat) (o : List Int) (st : RSt) (n : Nat), o.length + d ≤ n → st.1.length ≤ n → (rs l start m d o st).1.length ≤ n := by
  intro d
  induction d with
  | zero => intro o st n h1 h2; rw [rs]; split; split; exact h2; show o.length ≤ n; omega; exact h2
  | succ d ih =>
    intro o st n h1 h2
    rw [rs]
    refine foldl_inv (q := fun s : RSt => s.1.length ≤ n) (fun s k _ hs => ?_) h2
    split
    · exact hs
    · exact ih _ _ n (by simp; omega) hs
end Go.Proofs.YtnkdlkgannnfhaaGreatDoor
set_option maxRecDepth 20000
namespace Go.Proofs.YtnkdlkgannnfhaaGreatDoor
open Go Go.Eng
abbrev Win := Int × Int
def vwF : Win → List DV := fun p => [.int .i64 p.1, .int .i64 p.2]
def vw0 : Win := (0, 0)
abbrev wins (l : List Win) : DV := seqD 2 vwF vw0 l
abbrev vwB (l : List Win) : Res := seqB 51 2 vwF vw0 l
abbrev vwC (x : Win) : Res := .cells 51 [.d (.int .i64 x.1), .d (.int .i64 x.2)]
def hitP (x y : Win) : Bool := decide (x.1 < y.2) && decide (y.1 < x.2)
theorem hitP_comm (x y : Win) : hitP x y = hitP y x := by unfold hitP; rw [Bool.and_comm]
def wlen (l : List Win) : Int := (l.map fun x => x.2 - x.1).sum
theorem wlen_app (l m : List Win) : wlen (l ++ m) = wlen l + wlen m := by unfold wlen; rw [List.map_append, List.sum_append]
theorem wlen_cons (x : Win) (l : List Win) : wlen (x :: l) = (x.2 - x.1) + wlen l := by simp [wlen]
theorem wlen_filter (p : Win → Bool) (l : List Win) : wlen l = wlen (l.filter p) + wlen (l.filter fun x => !p x) := by
  induction l with
  | nil => rfl
  | cons x l ih =>
    cases q : p x
    · rw [List.filter_cons_of_neg (by simp [q]), List.filter_cons_of_pos (by simp [q]), wlen_cons, wlen_cons]; omega
    · rw [List.filter_cons_of_pos (by simp [q]), List.filter_cons_of_neg (by simp [q]), wlen_cons, wlen_cons]; omega
def disjW (l : List Win) : Prop := l.Pairwise (fun x y => hitP x y = false)
def inW (a b : Int) (l : List Win) : Prop := ∀ x ∈ l, a ≤ x.1 ∧ x.1 < x.2 ∧ x.2 ≤ b
/-- Windows that do not meet are not longer than what they lie in. -/
theorem disj_sum : ∀ (n : Nat) (l : List Win) (a b : Int), l.length ≤ n → disjW l → inW a b l → a ≤ b → wlen l ≤ b - a := by
  intro n
  induction n with
  | zero =>
    intro l a b h _ _ hab
    obtain rfl := List.eq_nil_of_length_eq_zero (by omega : l.length = 0)
    simp [wlen]; omega
  | succ n ih =>
    intro l a b h hd hi hab
    cases l with
    | nil => simp [wlen]; omega
    | cons x r =>
      have hx := hi x (by simp)
      unfold disjW at hd
      rw [List.pairwise_cons] at hd
      have hr : r.length ≤ n := by simp at h; omega
      have f1 := List.length_filter_le (fun y : Win => decide (y.2 ≤ x.1)) r
      have f2 := List.length_filter_le (fun y : Win => !decide (y.2 ≤ x.1)) r
      have k1 := ih (r.filter fun y => decide (y.2 ≤ x.1)) a x.1 (by omega) (hd.2.sublist List.filter_sublist) (fun y hy => by
        rw [List.mem_filter] at hy
        have := hi y (by simp [hy.1])
        have h2 : y.2 ≤ x.1 := by simpa using hy.2
        omega) (by omega)
      have k2 := ih (r.filter fun y => !decide (y.2 ≤ x.1)) x.2 b (by omega) (hd.2.sublist List.filter_sublist) (fun y hy => by
        rw [List.mem_filter] at hy
        have := hi y (by simp [hy.1])
        have h2 : x.1 < y.2 := by simpa using hy.2
        have h3 := hd.1 y hy.1
        unfold hitP at h3
        rw [decide_eq_true h2, Bool.true_and, decide_eq_false_iff_not] at h3
        omega) (by omega)
      have := wlen_filter (fun y => decide (y.2 ≤ x.1)) r
      rw [wlen_cons]
      omega
theorem disj_snoc {l : List Win} {x : Win} (h : disjW l) (hx : ∀ y ∈ l, hitP x y = false) : disjW (l ++ [x]) := by
  unfold disjW at *
  rw [List.pairwise_append]
  exact ⟨h, by simp, fun y hy z hz => by simp at hz; subst hz; rw [hitP_comm]; exact hx y hy⟩
def hitW (l : List Win) (x : Win) : Bool := decide (0 ≤ ixF (fun i => hitP x (l.getD i vw0)) l.length)
theorem hitW_no {l : List Win} {x : Win} (h : hitW l x = false) : ∀ y ∈ l, hitP x y = false := fun y hy => by
  obtain ⟨i, hi, rfl⟩ := mem_getD (d := vw0) hy
  cases q : hitP x (l.getD i vw0) with
  | false => rfl
  | true =>
    have := ixF_pos (p := fun i => hitP x (l.getD i vw0)) hi q
    unfold hitW at h
    rw [decide_eq_true this] at h
    cases h
-- Blame's look
theorem z127 (x y : Win) : FSpec Tryz.prog 127 [.agg ((vwF y).map .d), .ptr 1000002 0] [(1000002, vwC x)] (fun z r => z = .d (.bool (hitP x y)) ∧ r = [(1000002, vwC x)]) := by
  refine spec_of hT (C := []) Tryz.func127 rfl Tryz.call127 rfl rfl rfl ?_
  conv => whnf
  repeat' (first
    | (refine br_intro (fun hb => ?_) (fun hb => ?_) <;> (try simp only [decide_eq_true_eq, decide_eq_false_iff_not, Bool.not_eq_true', Bool.not_eq_false', Bool.and_eq_true, Bool.or_eq_true, beq_iff_eq, not_and, Int.not_le, Int.not_lt, Int.toNat_natCast, beq_eq_false_iff_ne, ne_eq, eq_self, not_true_eq_false, not_false_eq_true] at hb) <;> (conv => whnf))
    | omega
    | (refine And.intro ?_ ?_; ((try dsimp only); first | omega | (refine ⟨by omega, by omega, Int.le_trans (Int.mul_le_mul_of_nonneg_right (Int.ofNat_le.2 (Nat.le_of_ble_eq_true (rfl : Nat.ble _ 1024 = true))) (by omega)) (by omega), by omega⟩) | (refine Nat.le_trans (Nat.mul_le_mul_left _ (Nat.le_of_ble_eq_true (rfl : Nat.ble _ 1024 = true))) ?_; omega) | (unfold inI64; omega) | (constructor <;> omega) | (simp only [inI64, List.length_cons, List.length_append, List.length_nil, List.length_set] at *; omega) | decide | (unfold inI64; decide)); conv => whnf)
    | omega | decide | assumption)
  all_goals
    refine .ret _ ?_
    conv => whnf
    refine ⟨_, ⟨?_, rfl⟩, Res.le_refl _, trivial⟩
    (conv => lhs; whnf)
    congr 2
    unfold hitP; grind
-- slices.IndexFunc of windows
theorem z211 (x : Win) (l : List Win) (hl : l.length ≤ 2^40) : FSpec Tryz.prog 211 [.buf 1000001, .fn 127 [.ptr 1000002 0]] [(1000001, vwB l), (1000002, vwC x)] (fun y r => y = .d (.int .i64 (ixF (fun i => hitP x (l.getD i vw0)) l.length)) ∧ r = [(1000001, vwB l), (1000002, vwC x)]) := by
  refine spec_of hT (C := []) Tryz.func211 rfl Tryz.call211 rfl rfl rfl ?_
  conv => whnf
  refine LoopX.rule hT (C := []) (ι := Nat) (fun i => i ≤ l.length ∧ ∀ j, j < i → hitP x (l.getD j vw0) = false) (fun i => mkSt [(0, .buf 1000001), (1, .fn 127 [.ptr 1000002 0]), (7, .d (.int .i64 l.length)), (8, .d (.int .i64 i))] [(1000001, vwB l), (1000002, vwC x)]) (fun i => l.length - i) 0 ⟨by omega, by omega⟩ (by refine Entails.mk' [(1000001, 1000001), (1000002, 1000002)] rfl rfl ?_ ?_ <;> repeat' (first | exact True.intro | exact SV.le_refl _ | exact Res.le_refl _ | exact SV.le_int (by omega) | exact SV.le_any _ | refine And.intro ?_ ?_)) ?_
  rintro i ⟨p1, p2⟩
  have e1 : (i : Int).toNat = i := Int.toNat_natCast i
  conv => whnf
  repeat' (first
    | (refine CallX.of (z127 x (l.getD (i : Int).toNat vw0)) [(1000002, 1000002)] rfl ⟨SV.le_refl _, SV.le_refl _, trivial⟩ ⟨Res.le_refl _, trivial⟩ rfl rfl ?_; rintro y rout ⟨rfl, rfl⟩; refine ⟨rfl, ?_⟩; conv => whnf)
    | (refine br_intro (fun hb => ?_) (fun hb => ?_) <;> (try simp only [decide_eq_true_eq, decide_eq_false_iff_not, Bool.not_eq_true', Bool.not_eq_false', Bool.and_eq_true, Bool.or_eq_true, beq_iff_eq, not_and, Int.not_le, Int.not_lt, Int.toNat_natCast, beq_eq_false_iff_ne, ne_eq, eq_self, not_true_eq_false, not_false_eq_true] at hb) <;> (conv => whnf))
    | omega
    | (refine And.intro ?_ ?_; ((try dsimp only); first | omega | (refine ⟨by omega, by omega, Int.le_trans (Int.mul_le_mul_of_nonneg_right (Int.ofNat_le.2 (Nat.le_of_ble_eq_true (rfl : Nat.ble _ 1024 = true))) (by omega)) (by omega), by omega⟩) | (refine Nat.le_trans (Nat.mul_le_mul_left _ (Nat.le_of_ble_eq_true (rfl : Nat.ble _ 1024 = true))) ?_; omega) | (unfold inI64; omega) | (constructor <;> omega) | (simp only [inI64, List.length_cons, List.length_append, List.length_nil, List.length_set] at *; omega) | decide | (unfold inI64; decide)); conv => whnf)
    | omega | decide | assumption)
  · refine .ret _ ?_
    conv => whnf
    refine ⟨_, ⟨?_, rfl⟩, Res.le_refl _, Res.le_refl _, trivial⟩
    (conv => lhs; whnf)
    congr 2
    exact (ixF_hit (by omega) p2 (by simpa using hb)).symm
  · exact ⟨i + 1, ⟨by omega, all_step p2 (by simpa using hb)⟩, by omega, (by refine Entails.mk' [(1000001, 1000001), (1000002, 1000002)] rfl rfl ?_ ?_ <;> repeat' (first | exact True.intro | exact SV.le_refl _ | exact Res.le_refl _ | exact SV.le_int (by omega) | exact SV.le_any _ | refine And.intro ?_ ?_))⟩
  · refine .ret _ ?_
    conv => whnf
    refine ⟨_, ⟨?_, rfl⟩, Res.le_refl _, Res.le_refl _, trivial⟩
    (conv => lhs; whnf)
    congr 2
    have : i = l.length := by omega
    subst this
    exact (ixF_none p2).symm
-- slices.ContainsFunc of windows
theorem z126 (x : Win) (l : List Win) (hl : l.length ≤ 2^40) : FSpec Tryz.prog 126 [.buf 1000001, .fn 127 [.ptr 1000002 0]] [(1000001, vwB l), (1000002, vwC x)] (fun y r => y = .d (.bool (hitW l x)) ∧ r = [(1000001, vwB l), (1000002, vwC x)]) := by
  refine spec_of hT (C := []) Tryz.func126 rfl Tryz.call126 rfl rfl rfl ?_
  conv => whnf
  repeat' (first
    | (refine CallX.of (z211 x l hl) [(1000001, 1000001), (1000002, 1000002)] rfl ⟨SV.le_refl _, SV.le_refl _, trivial⟩ ⟨Res.le_refl _, Res.le_refl _, trivial⟩ rfl rfl ?_; rintro y rout ⟨rfl, rfl⟩; refine ⟨rfl, ?_⟩; conv => whnf)
    | (refine br_intro (fun hb => ?_) (fun hb => ?_) <;> (try simp only [decide_eq_true_eq, decide_eq_false_iff_not, Bool.not_eq_true', Bool.not_eq_false', Bool.and_eq_true, Bool.or_eq_true, beq_iff_eq, not_and, Int.not_le, Int.not_lt, Int.toNat_natCast, beq_eq_false_iff_ne, ne_eq, eq_self, not_true_eq_false, not_false_eq_true] at hb) <;> (conv => whnf))
    | omega
    | (refine And.intro ?_ ?_; ((try dsimp only); first | omega | (refine ⟨by omega, by omega, Int.le_trans (Int.mul_le_mul_of_nonneg_right (Int.ofNat_le.2 (Nat.le_of_ble_eq_true (rfl : Nat.ble _ 1024 = true))) (by omega)) (by omega), by omega⟩) | (refine Nat.le_trans (Nat.mul_le_mul_left _ (Nat.le_of_ble_eq_true (rfl : Nat.ble _ 1024 = true))) ?_; omega) | (unfold inI64; omega) | (constructor <;> omega) | (simp only [inI64, List.length_cons, List.length_append, List.length_nil, List.length_set] at *; omega) | decide | (unfold inI64; decide)); conv => whnf)
    | omega | decide | assumption)
  refine .ret _ ?_
  conv => whnf
  exact ⟨_, ⟨rfl, rfl⟩, Res.le_refl _, Res.le_refl _, trivial⟩
def hadX (a b : Int) (x : Leg) : Win := (max x.out.tm a, min (if x.inn.tm = -1 then 5761440 else x.inn.tm) b)
def hadN (v : List UInt8) (a b : Int) (l : List Leg) : Nat → List Win
  | 0 => []
  | k + 1 => hadN v a b l k ++ (if (l.getD k lg0).veh = v ∧ (hadX a b (l.getD k lg0)).1 < (hadX a b (l.getD k lg0)).2 then [hadX a b (l.getD k lg0)] else [])
theorem hadN_ok (v : List UInt8) (a b : Int) (l : List Leg) : ∀ k, (hadN v a b l k).length ≤ k ∧ inW a b (hadN v a b l k) := by
  intro k
  induction k with
  | zero => exact ⟨Nat.le_refl _, fun x hx => by cases hx⟩
  | succ k ih =>
    rw [hadN]
    split
    · rename_i h
      refine ⟨by simp; omega, fun x hx => ?_⟩
      rcases List.mem_append.1 hx with q | q
      · exact ih.2 x q
      · simp at q; subst q
        refine ⟨?_, h.2, ?_⟩
        · show a ≤ max _ a; omega
        · show min _ b ≤ b; omega
    · rw [List.append_nil]; exact ⟨by omega, ih.2⟩
-- mark.had
theorem z125 (h : Hir) (v : List UInt8) (a b : Int) (hl : h.legs.length ≤ 1000) : FSpec Tryz.prog 125 [.agg ((hiF h).map .d), .d (.str v), .agg [.d (.int .i64 a), .d (.int .i64 b)]] [] (fun y r => y = .d (wins (hadN v a b h.legs h.legs.length)) ∧ r = []) := by
  refine spec_of hT (C := []) Tryz.func125 rfl Tryz.call125 rfl rfl rfl ?_
  conv => whnf
  repeat' (first
    | (refine br_intro (fun hb => ?_) (fun hb => ?_) <;> (try simp only [decide_eq_true_eq, decide_eq_false_iff_not, Bool.not_eq_true', Bool.not_eq_false', Bool.and_eq_true, Bool.or_eq_true, beq_iff_eq, not_and, Int.not_le, Int.not_lt, Int.toNat_natCast, beq_eq_false_iff_ne, ne_eq, eq_self, not_true_eq_false, not_false_eq_true] at hb) <;> (conv => whnf))
    | omega
    | (refine And.intro ?_ ?_; ((try dsimp only); first | omega | (refine ⟨by omega, by omega, Int.le_trans (Int.mul_le_mul_of_nonneg_right (Int.ofNat_le.2 (Nat.le_of_ble_eq_true (rfl : Nat.ble _ 1024 = true))) (by omega)) (by omega), by omega⟩) | (refine Nat.le_trans (Nat.mul_le_mul_left _ (Nat.le_of_ble_eq_true (rfl : Nat.ble _ 1024 = true))) ?_; omega) | (unfold inI64; omega) | (constructor <;> omega) | (simp only [inI64, List.length_cons, List.length_append, List.length_nil, List.length_set] at *; omega) | decide | (unfold inI64; decide)); conv => whnf)
    | omega | decide | assumption)
  refine LoopX.rule hT (C := []) (ι := Nat) (fun i => i ≤ h.legs.length) (fun i => mkSt [(1, .d (.str v)), (5, .ptr 5 0), (7, .buf 7), (13, .d (legs h.legs)), (14, .d (.int .i64 h.legs.length)), (15, .d (.int .i64 i))] [(5, vwC (a, b)), (7, vwB (hadN v a b h.legs i))]) (fun i => h.legs.length - i) 0 (by omega) ?_ ?_
  · exact (Entails.nil 7 7 51 2 (rowF vwF vw0 []) rfl rfl (by decide)).trans (by refine Entails.mk' [(5, 5), (7, 7)] rfl rfl ?_ ?_ <;> repeat' (first | exact True.intro | exact SV.le_refl _ | exact Res.le_refl _ | exact SV.le_int (by omega) | exact SV.le_any _ | refine And.intro ?_ ?_))
  rintro i p1
  have e1 : (i : Int).toNat = i := Int.toNat_natCast i
  have hle := (hadN_ok v a b h.legs i).1
  conv => whnf
  repeat' (first
    | (refine br_intro (fun hb => ?_) (fun hb => ?_) <;> (try simp only [decide_eq_true_eq, decide_eq_false_iff_not, Bool.not_eq_true', Bool.not_eq_false', Bool.and_eq_true, Bool.or_eq_true, beq_iff_eq, not_and, Int.not_le, Int.not_lt, Int.toNat_natCast, beq_eq_false_iff_ne, ne_eq, eq_self, not_true_eq_false, not_false_eq_true] at hb) <;> (conv => whnf))
    | omega
    | (refine And.intro ?_ ?_; ((try dsimp only); first | omega | (refine ⟨by omega, by omega, Int.le_trans (Int.mul_le_mul_of_nonneg_right (Int.ofNat_le.2 (Nat.le_of_ble_eq_true (rfl : Nat.ble _ 1024 = true))) (by omega)) (by omega), by omega⟩) | (refine Nat.le_trans (Nat.mul_le_mul_left _ (Nat.le_of_ble_eq_true (rfl : Nat.ble _ 1024 = true))) ?_; omega) | (unfold inI64; omega) | (constructor <;> omega) | (simp only [inI64, List.length_cons, List.length_append, List.length_nil, List.length_set] at *; omega) | decide | (unfold inI64; decide)); conv => whnf)
    | omega | decide | assumption)
  all_goals first
    | (have hs : hadN v a b h.legs (i + 1) = hadN v a b h.legs i ++ [hadX a b (h.legs.getD (i : Int).toNat lg0)] := by
         rw [hadN, if_pos (by simp only [e1] at *; unfold hadX; grind), e1]
       refine ⟨i + 1, by omega, by omega, Entails.mk' [(5, 5), (7, 49)] rfl rfl ⟨SV.le_refl _, SV.le_refl _, SV.le_refl _, SV.le_refl _, SV.le_refl _, SV.le_refl _, trivial⟩ ⟨Res.le_refl _, ?_, trivial⟩⟩
       rw [hs]
       exact Res.le_snocF (by unfold hadX; simp only [e1]; (first | rw [if_pos (by assumption)] | rw [if_neg (by assumption)]) <;> rfl))
    | (have hs : hadN v a b h.legs (i + 1) = hadN v a b h.legs i := by
         rw [hadN, if_neg (by simp only [e1] at *; unfold hadX; grind), List.append_nil]
       refine ⟨i + 1, by omega, by omega, ?_⟩
       rw [hs]
       exact (by refine Entails.mk' [(5, 5), (7, 7)] rfl rfl ?_ ?_ <;> repeat' (first | exact True.intro | exact SV.le_refl _ | exact Res.le_refl _ | exact SV.le_int (by omega) | exact SV.le_any _ | refine And.intro ?_ ?_)))
    | (refine .freeze _ 7 51 2 _ _ rfl (.weak _ ?_)
       conv => whnf
       have : i = h.legs.length := by omega
       subst this
       exact ⟨_, [], SV.le_refl _, ⟨rfl, rfl⟩, trivial⟩)
end Go.Proofs.YtnkdlkgannnfhaaGreatDoor
set_option maxRecDepth 20000
namespace Go.Proofs.YtnkdlkgannnfhaaGreatDoor
open Go Go.Eng
def sh0 : Pair := ([], 0)
abbrev shB (l : List Pair) : Res := seqB 56 2 pF ([], 0) l
def shK (p : Pair) : Prop := p.1.length ≤ 8
def shG (c : Int) (q : List Pair) : Prop := (q.map (·.2)).sum = c ∧ q.length ≤ 10 ∧ ∀ p ∈ q, p.1.length ≤ 8 ∧ 0 ≤ p.2 ∧ p.2 ≤ 1000000000
theorem le_sum {l : List Int} (h : ∀ x ∈ l, 0 ≤ x) : ∀ x ∈ l, x ≤ l.sum := by
  induction l with
  | nil => intro x hx; cases hx
  | cons y l ih =>
    intro x hx
    have h1 := sum_nonneg fun z hz => h z (List.mem_cons_of_mem _ hz)
    rw [List.sum_cons]
    rcases List.mem_cons.1 hx with rfl | q
    · omega
    · have := ih (fun z hz => h z (List.mem_cons_of_mem _ hz)) x q
      have := h y (by simp)
      omega
theorem map2_eq {Q : List Pair} {P : List Int} (hl : Q.length = P.length) (h : ∀ j, j < P.length → (Q.getD j ([], 0)).2 = P.getD j 0) : Q.map (·.2) = P := by
  refine eq_of_getD 0 (by simpa using hl) (fun j hj => ?_)
  have hj : j < Q.length := by simpa using hj
  rw [← h j (by omega), List.getD_eq_getElem?_getD, List.getElem?_map, List.getD_eq_getElem?_getD, List.getElem?_eq_getElem hj]
  rfl
theorem shG_of {c : Int} {W : List Int} {Q : List Pair} (hc : 0 ≤ c ∧ c ≤ 1000000000) (hw : ∀ x ∈ W, 0 ≤ x ∧ x ≤ 5761440) (hs : 0 < W.sum) (hn : W.length ≤ 10) (hl : Q.length = W.length)
    (hk : ∀ p ∈ Q, p.1.length ≤ 8) (h : ∀ j, j < (splitG c W).length → (Q.getD j ([], 0)).2 = (splitG c W).getD j 0) : shG c Q := by
  have hlb := left_bound c W hc.1 (fun x hx => (hw x hx).1) hs
  have hle : (splitG c W).length = W.length := by rw [splitG_eq c W hlb, rngL_length]
  have hm := map2_eq (by omega) h
  have hsum := splitG_sum c W hlb
  refine ⟨by rw [hm]; exact hsum, by omega, fun p hp => ⟨hk p hp, ?_⟩⟩
  have hnn : ∀ x ∈ splitG c W, 0 ≤ x := fun x hx => by
    obtain ⟨i, hi, rfl⟩ := mem_getD (d := 0) hx
    exact (splitG_part hc.1 (fun x hx => (hw x hx).1) hs (by omega)).1
  have hp2 : p.2 ∈ splitG c W := by rw [← hm]; exact List.mem_map.2 ⟨p, hp, rfl⟩
  have h1 := hnn _ hp2
  have h2 := le_sum hnn _ hp2
  omega
theorem sum_drop1 {W : List Int} : (W.drop 1).sum = W.sum - W.getD 0 0 := by
  cases W with
  | nil => rfl
  | cons x l => simp; omega
theorem rows_drop1 {W : List Int} {o : Int} : ∀ i, i < (W.drop 1).length → (bif Nat.beq (1 + i) 0 then setAtD (rowF iF 0 W (1 + i)) 0 [.int .i64 o] else rowF iF 0 W (1 + i)) = rowF iF 0 (W.drop 1) i := by
  intro i hi
  rw [nbeq_ne (by omega : 1 + i ≠ 0)]
  simp only [cond_false, rowF]
  congr 1
  rw [List.getD_eq_getElem?_getD, List.getD_eq_getElem?_getD, List.getElem?_drop]
theorem getD_set_ne {α : Type} {l : List α} {i j : Nat} {x d : α} (h : i ≠ j) : (l.set i x).getD j d = l.getD j d := by
  rw [List.getD_eq_getElem?_getD, List.getElem?_set, if_neg h, List.getD_eq_getElem?_getD]
theorem getD_set_eq {α : Type} {l : List α} {i : Nat} {x d : α} (h : i < l.length) : (l.set i x).getD i d = x := by
  rw [List.getD_eq_getElem?_getD, List.getElem?_set]; simp [h]
theorem mem_updK {Q : List Pair} {j : Nat} {x : Int} (h : ∀ p ∈ Q, p.1.length ≤ 8) : ∀ p ∈ Q.set j ((Q.getD j ([], 0)).1, x), p.1.length ≤ 8 := fun p hp => by
  rcases List.mem_or_eq_of_mem_set hp with q | q
  · exact h p q
  · subst q
    by_cases e : j < Q.length
    · show (Q.getD j ([], 0)).1.length ≤ 8
      exact h _ (getD_mem e)
    · show (Q.getD j ([], 0)).1.length ≤ 8
      rw [List.getD_eq_getElem?_getD, List.getElem?_eq_none (by omega)]; simp
theorem firstE2_0 (x : Int) : firstE [x, 0] = x := by simp only [firstE]; grind
theorem firstE2_ne (x : Int) : firstE [x, 1] ≠ 0 := by simp only [firstE]; grind
set_option maxHeartbeats 8000000 in
theorem z33 (v : List UInt8) (hv : v.length ≤ 2^40) (a b : Int) (l : List Hir) (hl : allK (hiB 3) 5 l) (c : Int) :
    FSpec Tryz.prog 33 [.d (.str v), .agg [.d (.int .i64 a), .d (.int .i64 b)], .d (hirs l), .d (.int .i64 c)] []
      (fun y r => (∃ (q : List Pair) (E : Int), y = .tup [.d (pairs q), .d (.int .i64 E)] ∧ (E ≠ 0 → q = []) ∧ (E = 0 → shG c q)) ∧ r = []) := by
  have hl5 := hl.1
  have hok : hiOk l := ⟨by omega, fun h hh => hiB_K (hl.2 h hh) (by omega)⟩
  have c1 := s108 v hv
  have c2 := z123 a b
  have c3 := z124 l hok
  obtain ⟨E, hE⟩ : ∃ E : Int, E = firstE [if (!isKeyB v) = true then 5 else 0, winE a b, hirsE l] := ⟨_, rfl⟩
  have c4 := s105 [if (!isKeyB v) = true then 5 else 0, winE a b, hirsE l] (by simp)
  rw [← hE] at c4
  refine spec_of hT (C := [42, 43]) Tryz.func33 rfl Tryz.call33 rfl rfl rfl ?_
  conv => whnf
  repeat' (first
    | (refine CallX.exact (c1) rfl rfl ?_; rotate_right; conv => whnf)
    | (refine CallX.exact (s107 _ _) rfl rfl ?_; rotate_right; conv => whnf)
    | (refine CallX.exact (c2) rfl rfl ?_; rotate_right; conv => whnf)
    | (refine CallX.exact (c3) rfl rfl ?_; rotate_right; conv => whnf)
    | (refine CallX.pure c4 ⟨SV.le_lit (by rfl) (by rfl), trivial⟩ rfl ?_; conv => whnf)
    | (refine br_intro (fun hb => ?_) (fun hb => ?_) <;> (try simp only [decide_eq_true_eq, decide_eq_false_iff_not, Bool.not_eq_true', Bool.not_eq_false', Bool.and_eq_true, Bool.or_eq_true, beq_iff_eq, not_and, Int.not_le, Int.not_lt, Int.toNat_natCast, beq_eq_false_iff_ne, ne_eq, eq_self, not_true_eq_false, not_false_eq_true] at hb) <;> (conv => whnf))
    | (refine RegX.rule (id := 1) hT rfl [] [(0, []), (4, [0]), (6, [0, 4]), (1, [4, 6]), (2, [4, 6]), (3, [4, 6]), (5, [6]), (7, []), (8, []), (9, []), (10, [])] (by decide +kernel) ?_; conv => whnf)
    | (refine RegX.rule (id := 25) hT rfl [] [(0, []), (1, []), (2, [0, 1]), (3, [0, 1]), (4, [2, 3]), (5, [])] (by decide +kernel) ?_; conv => whnf)
    | omega
    | (refine And.intro ?_ ?_; ((try dsimp only); first | omega | (refine ⟨by omega, by omega, Int.le_trans (Int.mul_le_mul_of_nonneg_right (Int.ofNat_le.2 (Nat.le_of_ble_eq_true (rfl : Nat.ble _ 1024 = true))) (by omega)) (by omega), by omega⟩) | (refine Nat.le_trans (Nat.mul_le_mul_left _ (Nat.le_of_ble_eq_true (rfl : Nat.ble _ 1024 = true))) ?_; omega) | (unfold inI64; omega) | (constructor <;> omega) | (simp only [inI64, List.length_cons, List.length_append, List.length_nil, List.length_set] at *; omega) | decide | (unfold inI64; decide)); conv => whnf)
    | omega | decide | assumption)
  · refine .weak _ ?_
    conv => whnf
    refine ⟨.tup [.d (pairs []), .d (.int .i64 _)], [], SV.le_tup ⟨SV.le_nilS, SV.le_refl _, trivial⟩, ⟨⟨[], _, rfl, fun _ => rfl, fun q => ?_⟩, rfl⟩, trivial⟩
    first | exact absurd q (by decide) | (exfalso; omega)
  have hw : winE a b = 0 := by
    have : E = 0 := by omega
    rw [hE] at this
    simp only [firstE] at this
    grind
  have hab : (0 ≤ a ∧ a ≤ b) ∧ b ≤ 5761440 := by unfold winE at hw; grind
  obtain ⟨⟨ha0, hab⟩, hb0⟩ := hab
  repeat' (first
    | (refine br_intro (fun hb => ?_) (fun hb => ?_) <;> (try simp only [decide_eq_true_eq, decide_eq_false_iff_not, Bool.not_eq_true', Bool.not_eq_false', Bool.and_eq_true, Bool.or_eq_true, beq_iff_eq, not_and, Int.not_le, Int.not_lt, Int.toNat_natCast, beq_eq_false_iff_ne, ne_eq, eq_self, not_true_eq_false, not_false_eq_true] at hb) <;> (conv => whnf))
    | (refine RegX.rule (id := 1) hT rfl [] [(0, []), (4, [0]), (6, [0, 4]), (1, [4, 6]), (2, [4, 6]), (3, [4, 6]), (5, [6]), (7, []), (8, []), (9, []), (10, [])] (by decide +kernel) ?_; conv => whnf)
    | (refine RegX.rule (id := 25) hT rfl [] [(0, []), (1, []), (2, [0, 1]), (3, [0, 1]), (4, [2, 3]), (5, [])] (by decide +kernel) ?_; conv => whnf)
    | omega
    | (refine And.intro ?_ ?_; ((try dsimp only); first | omega | (refine ⟨by omega, by omega, Int.le_trans (Int.mul_le_mul_of_nonneg_right (Int.ofNat_le.2 (Nat.le_of_ble_eq_true (rfl : Nat.ble _ 1024 = true))) (by omega)) (by omega), by omega⟩) | (refine Nat.le_trans (Nat.mul_le_mul_left _ (Nat.le_of_ble_eq_true (rfl : Nat.ble _ 1024 = true))) ?_; omega) | (unfold inI64; omega) | (constructor <;> omega) | (simp only [inI64, List.length_cons, List.length_append, List.length_nil, List.length_set] at *; omega) | decide | (unfold inI64; decide)); conv => whnf)
    | omega | decide | assumption)
  refine LoopX.rule hT (C := [42, 43]) (ι := List Win × List Pair × List Int × Nat) (fun (A, O, W, i) => (i ≤ l.length ∧ A.length ≤ 3 * i) ∧ (O.length = W.length ∧ 1 ≤ W.length ∧ W.length ≤ i + 1) ∧ (disjW A ∧ inW a b A) ∧ (wlen A = W.sum ∧ (∀ x ∈ W, 0 ≤ x) ∧ W.getD 0 0 = 0) ∧ ∀ p ∈ O, p.1.length ≤ 8)
    (fun (A, O, W, i) => mkSt [(0, .d (.str v)), (3, .d (.int .i64 c)), (5, .ptr 5 0), (11, .d (.int .i64 (b - a - W.sum))), (12, .buf 12), (13, .buf 13), (14, .buf 14), (44, .d (hirs l)), (45, .d (.int .i64 l.length)), (46, .d (.int .i64 i))] [(5, vwC (a, b)), (12, vwB A), (13, shB O), (14, seqB 3 1 iF 0 W)])
    (fun (_, _, _, i) => l.length - i) ([], [([], 0)], [0], 0) ⟨⟨by simp, by simp⟩, ⟨by simp, by simp, by simp⟩, ⟨List.Pairwise.nil, fun x hx => by cases hx⟩, ⟨by simp [wlen], by simp, by simp⟩, by simp⟩ ?_ ?_
  · exact (Entails.nil 12 12 51 2 (rowF vwF vw0 []) rfl rfl (by decide)).trans (by refine Entails.mk' [(5, 5), (12, 12), (13, 42), (14, 43)] rfl rfl ?_ ?_ <;> repeat' (first | exact True.intro | exact SV.le_refl _ | exact Res.le_refl _ | (exact SV.le_int (by simp)) | (exact Res.le_lit rfl rfl) | exact SV.le_int (by omega) | exact SV.le_any _ | refine And.intro ?_ ?_))
  rintro ⟨A, O, W, i⟩ ⟨⟨p1, p2⟩, ⟨r1, r2, r3⟩, ⟨d1, d2⟩, ⟨w1, w2, w3⟩, r5⟩
  have p1 : i ≤ l.length := p1
  have p2 : A.length ≤ 3 * i := p2
  have r1 : O.length = W.length := r1
  have r2 : 1 ≤ W.length := r2
  have r3 : W.length ≤ i + 1 := r3
  have d1 : disjW A := d1
  have d2 : inW a b A := d2
  have w1 : wlen A = W.sum := w1
  have w2 : ∀ x ∈ W, 0 ≤ x := w2
  have w3 : W.getD 0 0 = 0 := w3
  have r5 : ∀ p ∈ O, p.1.length ≤ 8 := r5
  have hm := disj_sum A.length A a b (Nat.le_refl _) d1 d2 hab
  have hs0 := sum_nonneg w2
  have e1 : (i : Int).toNat = i := Int.toNat_natCast i
  by_cases hi : i < l.length
  · have hH : hiB 3 (l.getD (i : Int).toNat hi0) := hl.2 _ (getD_mem (by omega))
    have hHl := hH.2.2.1
    have c5 := z125 (l.getD (i : Int).toNat hi0) v a b (by omega)
    have hD0 := hadN_ok v a b (l.getD (i : Int).toNat hi0).legs (l.getD (i : Int).toNat hi0).legs.length
    generalize hadN v a b (l.getD (i : Int).toNat hi0).legs (l.getD (i : Int).toNat hi0).legs.length = D at c5 hD0
    obtain ⟨hD1, hD2⟩ := hD0
    have hD3 : D.length ≤ 3 := by omega
    conv => whnf
    repeat' (first
      | (refine CallX.exact (c5) rfl rfl ?_; rotate_right; conv => whnf)
      | (refine br_intro (fun hb => ?_) (fun hb => ?_) <;> (try simp only [decide_eq_true_eq, decide_eq_false_iff_not, Bool.not_eq_true', Bool.not_eq_false', Bool.and_eq_true, Bool.or_eq_true, beq_iff_eq, not_and, Int.not_le, Int.not_lt, Int.toNat_natCast, beq_eq_false_iff_ne, ne_eq, eq_self, not_true_eq_false, not_false_eq_true] at hb) <;> (conv => whnf))
      | (refine RegX.rule (id := 1) hT rfl [] [(0, []), (4, [0]), (6, [0, 4]), (1, [4, 6]), (2, [4, 6]), (3, [4, 6]), (5, [6]), (7, []), (8, []), (9, []), (10, [])] (by decide +kernel) ?_; conv => whnf)
      | (refine RegX.rule (id := 25) hT rfl [] [(0, []), (1, []), (2, [0, 1]), (3, [0, 1]), (4, [2, 3]), (5, [])] (by decide +kernel) ?_; conv => whnf)
      | omega
      | (refine And.intro ?_ ?_; ((try dsimp only); first | omega | (refine ⟨by omega, by omega, Int.le_trans (Int.mul_le_mul_of_nonneg_right (Int.ofNat_le.2 (Nat.le_of_ble_eq_true (rfl : Nat.ble _ 1024 = true))) (by omega)) (by omega), by omega⟩) | (refine Nat.le_trans (Nat.mul_le_mul_left _ (Nat.le_of_ble_eq_true (rfl : Nat.ble _ 1024 = true))) ?_; omega) | (unfold inI64; omega) | (constructor <;> omega) | (simp only [inI64, List.length_cons, List.length_append, List.length_nil, List.length_set] at *; omega) | decide | (unfold inI64; decide)); conv => whnf)
      | omega | decide | assumption)
    · refine LoopX.rule hT (C := [42, 43]) (ι := List Win × Int × Nat) (fun (A', n, j) => (j ≤ D.length ∧ A'.length ≤ A.length + j) ∧ (disjW A' ∧ inW a b A') ∧ (wlen A' = W.sum + n ∧ 0 ≤ n))
        (fun (A', n, j) => mkSt [(0, .d (.str v)), (3, .d (.int .i64 c)), (5, .ptr 5 0), (11, .d (.int .i64 (b - a - W.sum))), (12, .buf 12), (13, .buf 13), (14, .buf 14), (16, .ptr 16 0), (17, .d (.int .i64 n)), (44, .d (hirs l)), (45, .d (.int .i64 l.length)), (46, .d (.int .i64 i)), (53, .d (wins D)), (54, .d (.int .i64 D.length)), (55, .d (.int .i64 j))] [(5, vwC (a, b)), (12, vwB A'), (13, shB O), (14, seqB 3 1 iF 0 W), (16, hcell (l.getD (i : Int).toNat hi0))])
        (fun (_, _, j) => D.length - j) (A, 0, 0) ⟨⟨by omega, by omega⟩, ⟨d1, d2⟩, ⟨by omega, by omega⟩⟩ (by refine Entails.mk' [(5, 5), (12, 12), (13, 13), (14, 14), (16, 16)] rfl rfl ?_ ?_ <;> repeat' (first | exact True.intro | exact SV.le_refl _ | exact Res.le_refl _ | exact SV.le_int (by omega) | exact SV.le_any _ | refine And.intro ?_ ?_)) ?_
      rintro ⟨A', n, j⟩ ⟨⟨q1, q2⟩, ⟨q3, q4⟩, ⟨q5, q6⟩⟩
      have q1 : j ≤ D.length := q1
      have q2 : A'.length ≤ A.length + j := q2
      have q3 : disjW A' := q3
      have q4 : inW a b A' := q4
      have q5 : wlen A' = W.sum + n := q5
      have q6 : 0 ≤ n := q6
      have hm' := disj_sum A'.length A' a b (Nat.le_refl _) q3 q4 hab
      have f1 : (j : Int).toNat = j := Int.toNat_natCast j
      by_cases hj : j < D.length
      · have hx := hD2 (D.getD (j : Int).toNat vw0) (getD_mem (by omega))
        obtain ⟨x1, x2, x3⟩ := hx
        conv => whnf
        repeat' (first
          | (refine CallX.of (z126 (D.getD (j : Int).toNat vw0) A' (by omega)) [(1000001, 12), (1000002, 19)] rfl ⟨SV.le_refl _, SV.le_refl _, trivial⟩ ⟨Res.le_refl _, Res.le_refl _, trivial⟩ rfl rfl ?_; rintro y rout ⟨rfl, rfl⟩; refine ⟨rfl, ?_⟩; conv => whnf)
          | (refine br_intro (fun hb => ?_) (fun hb => ?_) <;> (try simp only [decide_eq_true_eq, decide_eq_false_iff_not, Bool.not_eq_true', Bool.not_eq_false', Bool.and_eq_true, Bool.or_eq_true, beq_iff_eq, not_and, Int.not_le, Int.not_lt, Int.toNat_natCast, beq_eq_false_iff_ne, ne_eq, eq_self, not_true_eq_false, not_false_eq_true] at hb) <;> (conv => whnf))
          | (refine RegX.rule (id := 1) hT rfl [] [(0, []), (4, [0]), (6, [0, 4]), (1, [4, 6]), (2, [4, 6]), (3, [4, 6]), (5, [6]), (7, []), (8, []), (9, []), (10, [])] (by decide +kernel) ?_; conv => whnf)
          | (refine RegX.rule (id := 25) hT rfl [] [(0, []), (1, []), (2, [0, 1]), (3, [0, 1]), (4, [2, 3]), (5, [])] (by decide +kernel) ?_; conv => whnf)
          | omega
          | (refine And.intro ?_ ?_; ((try dsimp only); first | omega | (refine ⟨by omega, by omega, Int.le_trans (Int.mul_le_mul_of_nonneg_right (Int.ofNat_le.2 (Nat.le_of_ble_eq_true (rfl : Nat.ble _ 1024 = true))) (by omega)) (by omega), by omega⟩) | (refine Nat.le_trans (Nat.mul_le_mul_left _ (Nat.le_of_ble_eq_true (rfl : Nat.ble _ 1024 = true))) ?_; omega) | (unfold inI64; omega) | (constructor <;> omega) | (simp only [inI64, List.length_cons, List.length_append, List.length_nil, List.length_set] at *; omega) | decide | (unfold inI64; decide)); conv => whnf)
          | omega | decide | assumption)
        · refine .weak _ ?_
          conv => whnf
          refine ⟨.tup [.d (pairs []), .d (.int .i64 _)], [], SV.le_tup ⟨SV.le_nilS, SV.le_refl _, trivial⟩, ⟨⟨[], _, rfl, fun _ => rfl, fun q => ?_⟩, rfl⟩, trivial⟩
          first | exact absurd q (by decide) | (exfalso; omega)
        · have hd := disj_snoc q3 (hitW_no (by simpa using hb))
          refine ⟨(A' ++ [D.getD (j : Int).toNat vw0], n + ((D.getD (j : Int).toNat vw0).2 - (D.getD (j : Int).toNat vw0).1), j + 1), ⟨⟨by omega, by simp; omega⟩, ⟨hd, fun y hy => ?_⟩, ⟨?_, by omega⟩⟩, (show D.length - (j + 1) < D.length - j by omega), Entails.mk' [(5, 5), (12, 65), (13, 13), (14, 14), (16, 16)] rfl rfl ⟨SV.le_refl _, SV.le_refl _, SV.le_refl _, SV.le_refl _, SV.le_refl _, SV.le_refl _, SV.le_refl _, SV.le_refl _, SV.le_refl _, SV.le_refl _, SV.le_refl _, SV.le_refl _, SV.le_refl _, SV.le_refl _, SV.le_int (by omega), trivial⟩ ⟨Res.le_refl _, Res.le_snocF rfl, Res.le_refl _, Res.le_refl _, Res.le_refl _, trivial⟩⟩
          · rcases List.mem_append.1 hy with q | q
            · exact q4 y q
            · simp at q; subst q; exact ⟨x1, x2, x3⟩
          · rw [wlen_app, wlen_cons, q5]; simp [wlen]; omega
      · conv => whnf
        repeat' (first
          | (refine br_intro (fun hb => ?_) (fun hb => ?_) <;> (try simp only [decide_eq_true_eq, decide_eq_false_iff_not, Bool.not_eq_true', Bool.not_eq_false', Bool.and_eq_true, Bool.or_eq_true, beq_iff_eq, not_and, Int.not_le, Int.not_lt, Int.toNat_natCast, beq_eq_false_iff_ne, ne_eq, eq_self, not_true_eq_false, not_false_eq_true] at hb) <;> (conv => whnf))
          | (refine RegX.rule (id := 1) hT rfl [] [(0, []), (4, [0]), (6, [0, 4]), (1, [4, 6]), (2, [4, 6]), (3, [4, 6]), (5, [6]), (7, []), (8, []), (9, []), (10, [])] (by decide +kernel) ?_; conv => whnf)
          | (refine RegX.rule (id := 25) hT rfl [] [(0, []), (1, []), (2, [0, 1]), (3, [0, 1]), (4, [2, 3]), (5, [])] (by decide +kernel) ?_; conv => whnf)
          | omega
          | (refine And.intro ?_ ?_; ((try dsimp only); first | omega | (refine ⟨by omega, by omega, Int.le_trans (Int.mul_le_mul_of_nonneg_right (Int.ofNat_le.2 (Nat.le_of_ble_eq_true (rfl : Nat.ble _ 1024 = true))) (by omega)) (by omega), by omega⟩) | (refine Nat.le_trans (Nat.mul_le_mul_left _ (Nat.le_of_ble_eq_true (rfl : Nat.ble _ 1024 = true))) ?_; omega) | (unfold inI64; omega) | (constructor <;> omega) | (simp only [inI64, List.length_cons, List.length_append, List.length_nil, List.length_set] at *; omega) | decide | (unfold inI64; decide)); conv => whnf)
          | omega | decide | assumption)
        all_goals try (exfalso; omega)
        · refine ⟨(A', O ++ [((l.getD (i : Int).toNat hi0).key, 0)], W ++ [n], i + 1), ⟨⟨by omega, by omega⟩, ⟨by simp; omega, by simp, by simp; omega⟩, ⟨q3, q4⟩, ⟨by simp; omega, fun x hx => ?_, ?_⟩, fun p hp => ?_⟩, (show l.length - (i + 1) < l.length - i by omega), Entails.mk' [(5, 5), (12, 12), (13, 81), (14, 85)] rfl rfl ⟨SV.le_refl _, SV.le_refl _, SV.le_refl _, SV.le_int (by simp; omega), SV.le_refl _, SV.le_refl _, SV.le_refl _, SV.le_refl _, SV.le_refl _, SV.le_int (by omega), trivial⟩ ⟨Res.le_refl _, Res.le_refl _, Res.le_snocF rfl, Res.le_snocF rfl, trivial⟩⟩
          · rcases List.mem_append.1 hx with q | q
            · exact w2 x q
            · simp at q; omega
          · show (W ++ [n]).getD 0 0 = 0
            rw [getD_app_lt (by omega)]; exact w3
          · rcases List.mem_append.1 hp with q | q
            · exact r5 p q
            · simp at q; subst q; exact hH.1
        · have hn0 : n = 0 := by omega
          refine ⟨(A', O, W, i + 1), ⟨⟨by omega, by omega⟩, ⟨r1, r2, by omega⟩, ⟨q3, q4⟩, ⟨by omega, w2, w3⟩, r5⟩, (show l.length - (i + 1) < l.length - i by omega), Entails.mk' [(5, 5), (12, 12), (13, 13), (14, 14)] rfl rfl ⟨SV.le_refl _, SV.le_refl _, SV.le_refl _, SV.le_refl _, SV.le_refl _, SV.le_refl _, SV.le_refl _, SV.le_refl _, SV.le_refl _, SV.le_int (by omega), trivial⟩ ⟨Res.le_refl _, Res.le_refl _, Res.le_refl _, Res.le_refl _, trivial⟩⟩
  · skip
    have hW0l : (W.set 0 (b - a - W.sum)).length = W.length := by simp
    have hW0s : (W.set 0 (b - a - W.sum)).sum = b - a := by rw [sum_setI W 0 (b - a - W.sum) (by omega), w3]; omega
    have hW0b : ∀ x ∈ W.set 0 (b - a - W.sum), 0 ≤ x ∧ x ≤ 5761440 := fun x hx => by
      have h0 : ∀ x ∈ W.set 0 (b - a - W.sum), 0 ≤ x := fun x hx => by
        rcases List.mem_or_eq_of_mem_set hx with q | q
        · exact w2 x q
        · omega
      have := le_sum h0 x hx
      have := h0 x hx
      omega
    have hD1l : ((W.set 0 (b - a - W.sum)).drop 1).length = W.length - 1 := by simp
    have hdrop : (W.set 0 (b - a - W.sum)).drop 1 = W.drop 1 := by cases W <;> rfl
    have hW1s : b - a - W.sum = 0 → ((W.set 0 (b - a - W.sum)).drop 1).sum = b - a := fun q => by rw [sum_drop1, getD_set_eq (by omega)]; omega
    have hW1b : ∀ x ∈ (W.set 0 (b - a - W.sum)).drop 1, 0 ≤ x ∧ x ≤ 5761440 := fun x hx => hW0b x (List.mem_of_mem_drop hx)
    have hOl : O.length ≤ 6 := by omega
    have hsub : SV.le (SV.sub 13 2 (1 : Int).toNat (((O.length : Nat) : Int) - 1).toNat) (SV.sub 13 2 1 (O.length - 1)) := by
      rw [show (1 : Int).toNat = 1 from rfl, show (((O.length : Nat) : Int) - 1).toNat = O.length - 1 by omega]; exact SV.le_refl _
    by_cases hc : 0 ≤ c ∧ c ≤ 1000000000
    · have c6 := s119 c 0 1000000000
      rw [decide_eq_true hc] at c6
      have s1 : a < b → FSpec Tryz.prog 122 [.d (.int .i64 c), .d (ints (W.set 0 (b - a - W.sum)))] [] (fun y r => y = .d (ints (splitG c (W.set 0 (b - a - W.sum)))) ∧ r = []) := fun q => s120 c (W.set 0 (b - a - W.sum)) hc hW0b (by omega) (by omega) (left_bound c _ hc.1 (fun x hx => (hW0b x hx).1) (by omega))
      have hg1 : a < b → ∀ Q : List Pair, Q.length = W.length → (∀ p ∈ Q, p.1.length ≤ 8) → (∀ j, j < (splitG c (W.set 0 (b - a - W.sum))).length → (Q.getD j ([], 0)).2 = (splitG c (W.set 0 (b - a - W.sum))).getD j 0) → shG c Q := fun q Q h1 h2 h3 => shG_of hc hW0b (by omega) (by omega) (by omega) h2 h3
      have hl1 : a < b → (splitG c (W.set 0 (b - a - W.sum))).length = W.length := fun q => by rw [splitG_eq c _ (left_bound c _ hc.1 (fun x hx => (hW0b x hx).1) (by omega)), rngL_length, hW0l]
      have s2 : b - a - W.sum = 0 → a < b → FSpec Tryz.prog 122 [.d (.int .i64 c), .d (ints (W.drop 1))] [] (fun y r => y = .d (ints (splitG c (W.drop 1))) ∧ r = []) := fun p q => by
        rw [← hdrop]
        have := hW1s p
        exact s120 c ((W.set 0 (b - a - W.sum)).drop 1) hc hW1b (by omega) (by omega) (left_bound c _ hc.1 (fun x hx => (hW1b x hx).1) (by omega))
      have hg2 : b - a - W.sum = 0 → a < b → ∀ Q : List Pair, Q.length = W.length - 1 → (∀ p ∈ Q, p.1.length ≤ 8) → (∀ j, j < (splitG c (W.drop 1)).length → (Q.getD j ([], 0)).2 = (splitG c (W.drop 1)).getD j 0) → shG c Q := fun p q Q h1 h2 h3 => by
        have := hW1s p
        rw [← hdrop] at h3
        exact shG_of hc hW1b (by omega) (by omega) (by omega) h2 h3
      have hl2 : b - a - W.sum = 0 → a < b → (splitG c (W.drop 1)).length = W.length - 1 := fun p q => by
        have := hW1s p
        rw [← hdrop, splitG_eq c _ (left_bound c _ hc.1 (fun x hx => (hW1b x hx).1) (by omega)), rngL_length, hD1l]
      generalize splitG c (W.set 0 (b - a - W.sum)) = P1 at s1 hg1 hl1
      generalize splitG c (W.drop 1) = P2 at s2 hg2 hl2
      conv => whnf
      repeat' (first
        | (refine CallX.exact (c6) rfl rfl ?_; rotate_right; conv => whnf)
        | (refine CallX.exact (s107 _ _) rfl rfl ?_; rotate_right; conv => whnf)
        | (refine CallX.pure (s105 [_, 0] (by simp)) ⟨SV.le_lit (by rfl) (by rfl), trivial⟩ rfl ?_; conv => whnf)
        | (refine CallX.freeze _ _ _ _ 14 3 1 _ _ rfl rfl ?_; (first | refine CallX.pure (s1 (by omega)) ⟨SV.le_refl _, SV.le_putF (fun _ _ => rfl), trivial⟩ rfl ?_ | refine CallX.pure (s2 (by omega) (by omega)) ⟨SV.le_refl _, SV.le_ro (by first | (simp; done) | (simp; omega)) (fun i hi => rows_drop1 i (by simp at hi ⊢; omega)), trivial⟩ rfl ?_); conv => whnf)
        | (refine br_intro (fun hb => ?_) (fun hb => ?_) <;> (try simp only [decide_eq_true_eq, decide_eq_false_iff_not, Bool.not_eq_true', Bool.not_eq_false', Bool.and_eq_true, Bool.or_eq_true, beq_iff_eq, not_and, Int.not_le, Int.not_lt, Int.toNat_natCast, beq_eq_false_iff_ne, ne_eq, eq_self, not_true_eq_false, not_false_eq_true] at hb) <;> (conv => whnf))
        | (refine RegX.rule (id := 1) hT rfl [] [(0, []), (4, [0]), (6, [0, 4]), (1, [4, 6]), (2, [4, 6]), (3, [4, 6]), (5, [6]), (7, []), (8, []), (9, []), (10, [])] (by decide +kernel) ?_; conv => whnf)
        | (refine RegX.rule (id := 25) hT rfl [] [(0, []), (1, []), (2, [0, 1]), (3, [0, 1]), (4, [2, 3]), (5, [])] (by decide +kernel) ?_; conv => whnf)
        | omega
        | (refine And.intro ?_ ?_; ((try dsimp only); first | omega | (refine ⟨by omega, by omega, Int.le_trans (Int.mul_le_mul_of_nonneg_right (Int.ofNat_le.2 (Nat.le_of_ble_eq_true (rfl : Nat.ble _ 1024 = true))) (by omega)) (by omega), by omega⟩) | (refine Nat.le_trans (Nat.mul_le_mul_left _ (Nat.le_of_ble_eq_true (rfl : Nat.ble _ 1024 = true))) ?_; omega) | (unfold inI64; omega) | (constructor <;> omega) | (simp only [inI64, List.length_cons, List.length_append, List.length_nil, List.length_set] at *; omega) | decide | (unfold inI64; decide)); conv => whnf)
        | omega | decide | assumption)
      all_goals try (exfalso; rw [firstE2_0] at *; simp at *; omega)
      all_goals first
        | (refine .weak _ ?_
           conv => whnf
           exact ⟨.tup [.d (pairs [([], c)]), .d (.int .i64 0)], [], SV.le_tup ⟨SV.le_lit rfl rfl, SV.le_refl _, trivial⟩, ⟨⟨[([], c)], 0, rfl, fun q => absurd rfl q, fun _ => by simp [shG]; omega⟩, rfl⟩, trivial⟩)
        | skip
      · have hlt : a < b := by omega
        have ho0 : b - a - W.sum = 0 := by omega
        have hlP := hl2 ho0 hlt
        have hG := hg2 ho0 hlt
        refine LoopX.rule hT (C := [42, 43]) (ι := List Pair × Nat) (fun (Q, i) => (i ≤ P2.length ∧ Q.length = O.length) ∧ (∀ j, j < i → (Q.getD (1 + j) ([], 0)).2 = P2.getD j 0) ∧ ∀ p ∈ Q, p.1.length ≤ 8)
          (fun (Q, i) => mkSt [(13, .sub 13 2 1 (O.length - 1)), (127, .d (ints P2)), (128, .d (.int .i64 P2.length)), (129, .d (.int .i64 i))] [(13, shB Q)]) (fun (_, i) => P2.length - i) (O, 0) ⟨⟨by simp, rfl⟩, by simp, r5⟩ (by refine Entails.mk' [(13, 13)] rfl rfl ?_ ?_ <;> repeat' (first | exact True.intro | exact SV.le_refl _ | exact Res.le_refl _ | (exact hsub) | exact SV.le_int (by omega) | exact SV.le_any _ | refine And.intro ?_ ?_)) ?_
        rintro ⟨Q, i⟩ ⟨⟨g1, g2⟩, g3, g4⟩
        have g1 : i ≤ P2.length := g1
        have g2 : Q.length = O.length := g2
        have e1 : (i : Int).toNat = i := Int.toNat_natCast i
        conv => whnf
        repeat' (first
          | (refine br_intro (fun hb => ?_) (fun hb => ?_) <;> (try simp only [decide_eq_true_eq, decide_eq_false_iff_not, Bool.not_eq_true', Bool.not_eq_false', Bool.and_eq_true, Bool.or_eq_true, beq_iff_eq, not_and, Int.not_le, Int.not_lt, Int.toNat_natCast, beq_eq_false_iff_ne, ne_eq, eq_self, not_true_eq_false, not_false_eq_true] at hb) <;> (conv => whnf))
          | (refine RegX.rule (id := 1) hT rfl [] [(0, []), (4, [0]), (6, [0, 4]), (1, [4, 6]), (2, [4, 6]), (3, [4, 6]), (5, [6]), (7, []), (8, []), (9, []), (10, [])] (by decide +kernel) ?_; conv => whnf)
          | (refine RegX.rule (id := 25) hT rfl [] [(0, []), (1, []), (2, [0, 1]), (3, [0, 1]), (4, [2, 3]), (5, [])] (by decide +kernel) ?_; conv => whnf)
          | omega
          | (refine And.intro ?_ ?_; ((try dsimp only); first | omega | (refine ⟨by omega, by omega, Int.le_trans (Int.mul_le_mul_of_nonneg_right (Int.ofNat_le.2 (Nat.le_of_ble_eq_true (rfl : Nat.ble _ 1024 = true))) (by omega)) (by omega), by omega⟩) | (refine Nat.le_trans (Nat.mul_le_mul_left _ (Nat.le_of_ble_eq_true (rfl : Nat.ble _ 1024 = true))) ?_; omega) | (unfold inI64; omega) | (constructor <;> omega) | (simp only [inI64, List.length_cons, List.length_append, List.length_nil, List.length_set] at *; omega) | decide | (unfold inI64; decide)); conv => whnf)
          | omega | decide | assumption)
        · refine ⟨(Q.set (1 + (i : Int).toNat) ((Q.getD (1 + (i : Int).toNat) ([], 0)).1, P2.getD (i : Int).toNat 0), i + 1), ⟨⟨by omega, by simpa using g2⟩, fun j hj => ?_, mem_updK g4⟩, (show P2.length - (i + 1) < P2.length - i by omega), Entails.mk' [(13, 13)] rfl rfl ⟨SV.le_refl _, SV.le_refl _, SV.le_refl _, SV.le_refl _, trivial⟩ ⟨Res.le_upd (f := pF) (fun p : Pair => (p.1, P2.getD (i : Int).toNat 0)) (fun _ => rfl), trivial⟩⟩
          show ((Q.set (1 + (i : Int).toNat) _).getD (1 + j) ([], 0)).2 = _
          rw [e1]
          by_cases q : j = i
          · subst q; rw [getD_set_eq (by omega)]
          · rw [getD_set_ne (by omega)]; exact g3 j (by have : j < i + 1 := hj; omega)
        · have hi : i = P2.length := by omega
          refine .freeze _ 13 56 2 _ _ rfl ?_
          refine .ent _ _ (Entails.froSub 8 13 2 1 (O.length - 1) _ _ rfl rfl) ?_
          refine .weak _ ?_
          conv => whnf
          refine ⟨.tup [.d (pairs (Q.drop 1)), .d (.int .i64 0)], [], SV.le_tup ⟨SV.le_drop (by simp [g2]), SV.le_refl _, trivial⟩, ⟨⟨Q.drop 1, 0, rfl, fun q => absurd rfl q, fun _ => hG (Q.drop 1) (by simp; omega) (fun p hp => g4 p (List.mem_of_mem_drop hp)) (fun j hj => ?_)⟩, rfl⟩, trivial⟩
          rw [← g3 j (by omega), List.getD_eq_getElem?_getD, List.getElem?_drop, ← List.getD_eq_getElem?_getD]
      all_goals
        have hlt : a < b := by omega
        have hlP := hl1 hlt
        have hG := hg1 hlt
        refine LoopX.rule hT (C := [42, 43]) (ι := List Pair × Nat) (fun (Q, i) => (i ≤ P1.length ∧ Q.length = W.length) ∧ (∀ j, j < i → (Q.getD j ([], 0)).2 = P1.getD j 0) ∧ ∀ p ∈ Q, p.1.length ≤ 8)
          (fun (Q, i) => mkSt [(13, .buf 13), (127, .d (ints P1)), (128, .d (.int .i64 P1.length)), (129, .d (.int .i64 i))] [(13, shB Q)]) (fun (_, i) => P1.length - i) (O, 0) ⟨⟨by simp, r1⟩, by simp, r5⟩ (by refine Entails.mk' [(13, 13)] rfl rfl ?_ ?_ <;> repeat' (first | exact True.intro | exact SV.le_refl _ | exact Res.le_refl _ | exact SV.le_int (by omega) | exact SV.le_any _ | refine And.intro ?_ ?_)) ?_
        rintro ⟨Q, i⟩ ⟨⟨g1, g2⟩, g3, g4⟩
        have g1 : i ≤ P1.length := g1
        have g2 : Q.length = W.length := g2
        have e1 : (i : Int).toNat = i := Int.toNat_natCast i
        conv => whnf
        repeat' (first
          | (refine br_intro (fun hb => ?_) (fun hb => ?_) <;> (try simp only [decide_eq_true_eq, decide_eq_false_iff_not, Bool.not_eq_true', Bool.not_eq_false', Bool.and_eq_true, Bool.or_eq_true, beq_iff_eq, not_and, Int.not_le, Int.not_lt, Int.toNat_natCast, beq_eq_false_iff_ne, ne_eq, eq_self, not_true_eq_false, not_false_eq_true] at hb) <;> (conv => whnf))
          | (refine RegX.rule (id := 1) hT rfl [] [(0, []), (4, [0]), (6, [0, 4]), (1, [4, 6]), (2, [4, 6]), (3, [4, 6]), (5, [6]), (7, []), (8, []), (9, []), (10, [])] (by decide +kernel) ?_; conv => whnf)
          | (refine RegX.rule (id := 25) hT rfl [] [(0, []), (1, []), (2, [0, 1]), (3, [0, 1]), (4, [2, 3]), (5, [])] (by decide +kernel) ?_; conv => whnf)
          | omega
          | (refine And.intro ?_ ?_; ((try dsimp only); first | omega | (refine ⟨by omega, by omega, Int.le_trans (Int.mul_le_mul_of_nonneg_right (Int.ofNat_le.2 (Nat.le_of_ble_eq_true (rfl : Nat.ble _ 1024 = true))) (by omega)) (by omega), by omega⟩) | (refine Nat.le_trans (Nat.mul_le_mul_left _ (Nat.le_of_ble_eq_true (rfl : Nat.ble _ 1024 = true))) ?_; omega) | (unfold inI64; omega) | (constructor <;> omega) | (simp only [inI64, List.length_cons, List.length_append, List.length_nil, List.length_set] at *; omega) | decide | (unfold inI64; decide)); conv => whnf)
          | omega | decide | assumption)
        · refine ⟨(Q.set (i : Int).toNat ((Q.getD (i : Int).toNat ([], 0)).1, P1.getD (i : Int).toNat 0), i + 1), ⟨⟨by omega, by simpa using g2⟩, fun j hj => ?_, mem_updK g4⟩, (show P1.length - (i + 1) < P1.length - i by omega), Entails.mk' [(13, 13)] rfl rfl ⟨SV.le_refl _, SV.le_refl _, SV.le_refl _, SV.le_refl _, trivial⟩ ⟨Res.le_upd (f := pF) (fun p : Pair => (p.1, P1.getD (i : Int).toNat 0)) (fun _ => rfl), trivial⟩⟩
          show ((Q.set (i : Int).toNat _).getD j ([], 0)).2 = _
          rw [e1]
          by_cases q : j = i
          · subst q; rw [getD_set_eq (by omega)]
          · rw [getD_set_ne (by omega)]; exact g3 j (by have : j < i + 1 := hj; omega)
        · have hi : i = P1.length := by omega
          refine .freeze _ 13 56 2 _ _ rfl (.weak _ ?_)
          conv => whnf
          exact ⟨.tup [.d (pairs Q), .d (.int .i64 0)], [], SV.le_tup ⟨SV.le_refl _, SV.le_refl _, trivial⟩, ⟨⟨Q, 0, rfl, fun q => absurd rfl q, fun _ => hG Q g2 g4 (fun j hj => g3 j (by omega))⟩, rfl⟩, trivial⟩
    · have c6 := s119 c 0 1000000000
      rw [decide_eq_false hc] at c6
      conv => whnf
      repeat' (first
        | (refine CallX.exact (c6) rfl rfl ?_; rotate_right; conv => whnf)
        | (refine CallX.exact (s107 _ _) rfl rfl ?_; rotate_right; conv => whnf)
        | (refine CallX.pure (s105 [_, 1] (by simp)) ⟨SV.le_lit (by rfl) (by rfl), trivial⟩ rfl ?_; conv => whnf)
        | (refine br_intro (fun hb => ?_) (fun hb => ?_) <;> (try simp only [decide_eq_true_eq, decide_eq_false_iff_not, Bool.not_eq_true', Bool.not_eq_false', Bool.and_eq_true, Bool.or_eq_true, beq_iff_eq, not_and, Int.not_le, Int.not_lt, Int.toNat_natCast, beq_eq_false_iff_ne, ne_eq, eq_self, not_true_eq_false, not_false_eq_true] at hb) <;> (conv => whnf))
        | (refine RegX.rule (id := 1) hT rfl [] [(0, []), (4, [0]), (6, [0, 4]), (1, [4, 6]), (2, [4, 6]), (3, [4, 6]), (5, [6]), (7, []), (8, []), (9, []), (10, [])] (by decide +kernel) ?_; conv => whnf)
        | (refine RegX.rule (id := 25) hT rfl [] [(0, []), (1, []), (2, [0, 1]), (3, [0, 1]), (4, [2, 3]), (5, [])] (by decide +kernel) ?_; conv => whnf)
        | omega
        | (refine And.intro ?_ ?_; ((try dsimp only); first | omega | (refine ⟨by omega, by omega, Int.le_trans (Int.mul_le_mul_of_nonneg_right (Int.ofNat_le.2 (Nat.le_of_ble_eq_true (rfl : Nat.ble _ 1024 = true))) (by omega)) (by omega), by omega⟩) | (refine Nat.le_trans (Nat.mul_le_mul_left _ (Nat.le_of_ble_eq_true (rfl : Nat.ble _ 1024 = true))) ?_; omega) | (unfold inI64; omega) | (constructor <;> omega) | (simp only [inI64, List.length_cons, List.length_append, List.length_nil, List.length_set] at *; omega) | decide | (unfold inI64; decide)); conv => whnf)
        | omega | decide | assumption)
      all_goals first
        | (exfalso; exact firstE2_ne _ (by assumption))
        | (refine .weak _ ?_
           conv => whnf
           exact ⟨.tup [.d (pairs []), .d (.int .i64 _)], [], SV.le_tup ⟨SV.le_nilS, SV.le_refl _, trivial⟩, ⟨⟨[], _, rfl, fun _ => rfl, fun q => absurd q (firstE2_ne _)⟩, rfl⟩, trivial⟩)
end Go.Proofs.YtnkdlkgannnfhaaGreatDoor
set_option maxRecDepth 20000
namespace Go.Proofs.YtnkdlkgannnfhaaGreatDoor
open Go Go.Eng
theorem hirE_start {key : List UInt8} {f : Int} (hk : isKeyB key = true) (h0 : 0 ≤ f) (h1 : f ≤ 10000) : hirE (startH key [97, 110, 110] f (f + 60) [118, 49] ⟨f, [115, 49], 0, 0⟩) = 0 := by
  have k1 : isKeyB [97, 110, 110] = true := by decide
  have k2 : isKeyB [118, 49] = true := by decide
  have k3 : isKeyB [115, 49] = true := by decide
  have ht : timE f (f + 60) = 0 := by unfold timE; grind
  have hr : rdgE ⟨f, [115, 49], 0, 0⟩ = 0 := by unfold rdgE; simp only [k3]; grind
  rw [hirE_legs (by exact hk) (by exact k1) (by exact ht)]
  have hl : legE (startH key [97, 110, 110] f (f + 60) [118, 49] ⟨f, [115, 49], 0, 0⟩) 0 = 0 := by
    unfold legE startH
    simp only [List.getD_cons_zero, k2, hr, rgN]
    simp
  rw [if_neg (by simp [startH]), if_neg (by simp [startH])]
  show firstAt _ 1 = 0
  simp [firstAt, hl]
theorem pkD {l : List Int} {x : Int} (h : x ∈ l) (hl : (l.all fun y => decide (0 ≤ y) && decide (y ≤ 3000)) = true) : 0 ≤ x ∧ x ≤ 3000 := by
  have := List.all_eq_true.1 hl x h
  simpa using this
theorem pkT {x : Int} (h : x ∈ [(0 : Int), 0, 1, 2]) : 0 ≤ x ∧ x ≤ 2 := by simp at h; omega
-- RightHire
set_option maxHeartbeats 4000000 in
theorem sRh (n : Nat) (L : Nat → Int) (hL : Rok n L) (a : Int) (h0 : 0 ≤ a) (ha : a ≤ 2^37) (key : List UInt8) (hkl : key.length ≤ 8) (f : Int) (hf0 : 0 ≤ f) (hf1 : f ≤ 10000) :
    FSpec Tryz.prog 128 [.ptr 1000000 0, .d (.str key), .d (.int .i64 f)] [(1000000, strm n L a)] (fun y r => (∃ h : Hir, hiB 3 h ∧ (isKeyB key = true → 1 ≤ h.legs.length) ∧ y = .agg ((hiF h).map .d)) ∧ Moved n L a 400 r) := by
  refine spec_of hT (C := []) Tryz.func128 rfl Tryz.call128 rfl rfl rfl ?_
  conv => whnf
  repeat' (first
    | (refine br_intro (fun hb => ?_) (fun hb => ?_) <;> (try simp only [decide_eq_true_eq, decide_eq_false_iff_not, Bool.not_eq_true', Bool.not_eq_false', Bool.and_eq_true, Bool.or_eq_true, beq_iff_eq, not_and, Int.not_le, Int.not_lt, Int.toNat_natCast, beq_eq_false_iff_ne, ne_eq, eq_self, not_true_eq_false, not_false_eq_true] at hb) <;> (conv => whnf))
    | (refine RegX.rule (id := 4) hT rfl [] [(0, []), (1, [0]), (2, [0, 1]), (4, [0, 1, 2]), (5, [0, 1, 2, 4]), (6, [0, 1, 2, 4, 5]), (8, [0, 1, 2, 4, 5, 6]), (9, [0, 1, 2, 4, 5, 6, 8]), (15, [0, 1, 2, 4, 5, 6, 8, 9]), (3, [0, 4, 5, 6, 8, 9, 15]), (7, [0, 4, 8, 9, 15]), (10, [0, 4, 15]), (11, [15]), (12, [15]), (13, [15]), (14, [15, 13]), (16, [14]), (17, [])] (by decide +kernel) ?_; conv => whnf)
    | (refine RegX.rule (id := 13) hT rfl [] [(0, []), (1, [0]), (2, [0, 1]), (3, [0, 1, 2]), (5, [0, 1, 2, 3]), (10, [0, 1, 2, 3, 5]), (4, [0, 1, 5, 10]), (6, [10]), (7, [10]), (8, [10]), (9, [10, 8]), (11, [9]), (12, [])] (by decide +kernel) ?_; conv => whnf)
    | (refine RegX.rule (id := 19) hT rfl [] [(0, []), (1, [0]), (2, [0, 1]), (8, [0, 1, 2]), (3, [0, 8]), (4, [8]), (5, [8]), (6, [8]), (7, [8, 6]), (9, [7]), (10, [])] (by decide +kernel) ?_; conv => whnf)
    | omega
    | (refine And.intro ?_ ?_; ((try dsimp only); first | omega | (refine ⟨by omega, by omega, Int.le_trans (Int.mul_le_mul_of_nonneg_right (Int.ofNat_le.2 (Nat.le_of_ble_eq_true (rfl : Nat.ble _ 1024 = true))) (by omega)) (by omega), by omega⟩) | (refine Nat.le_trans (Nat.mul_le_mul_left _ (Nat.le_of_ble_eq_true (rfl : Nat.ble _ 1024 = true))) ?_; omega) | (unfold inI64; omega) | (constructor <;> omega) | (simp only [inI64, List.length_cons, List.length_append, List.length_nil, List.length_set] at *; omega) | decide | (unfold inI64; decide)); conv => whnf)
    | omega | decide | assumption)
  refine LoopX.rule hT (C := []) (ι := Int × Nat) (fun (b, i) => a ≤ b ∧ b ≤ a + 20 * i ∧ i ≤ 6) (fun (b, i) => mkSt [(0, .ptr 1000000 0), (1, .d (.str key)), (2, .d (.int .i64 f)), (6, .ptr 6 0), (19, .d (.int .i64 i))] [(1000000, strm n L b), (6, zcell)]) (fun (_, i) => 6 - i) (a, 0) (by simp) (by refine Entails.mk' [(1000000, 1000000), (6, 6)] rfl rfl ?_ ?_ <;> repeat' (first | exact True.intro | exact SV.le_refl _ | exact Res.le_refl _ | exact SV.le_int (by omega) | exact SV.le_any _ | refine And.intro ?_ ?_)) ?_
  rintro ⟨b, i⟩ ⟨p1, p2, p3⟩
  have p1 : a ≤ b := p1
  have p2 : b ≤ a + 20 * i := p2
  have p3 : i ≤ 6 := p3
  conv => whnf
  repeat' (first
    | (refine CallX.of (s33 n L hL _ ?_ ?_ [60, 100, 1440, 2000, 3000] ?_ ?_) [(1000000, 1000000)] rfl ⟨SV.le_refl _, SV.le_lit rfl rfl, trivial⟩ ⟨Res.le_refl _, trivial⟩ rfl rfl ?_; rotate_right; rintro x rout ⟨⟨u1, hu1, rfl⟩, ⟨c, c1, c2, rfl⟩⟩; have hw1 := pkD hu1 (by decide); refine ⟨rfl, ?_⟩; conv => whnf)
    | (refine CallX.of (s15 n L hL _ ?_ ?_ [[97, 110, 110], [97, 110, 110], [98, 111, 98], [99, 105, 100]] (by simp) (by simp)) [(1000000, 1000000)] rfl ⟨SV.le_refl _, SV.le_lit rfl rfl, trivial⟩ ⟨Res.le_refl _, trivial⟩ rfl rfl ?_; rotate_right; rintro x rout ⟨⟨u2, hu2, rfl⟩, ⟨c, c1, c2, rfl⟩⟩; have hw2 := mem_len hu2 rfl; refine ⟨rfl, ?_⟩; conv => whnf)
    | (refine CallX.of (s15 n L hL _ ?_ ?_ [[118, 49], [118, 49], [118, 50], [118, 51]] (by simp) (by simp)) [(1000000, 1000000)] rfl ⟨SV.le_refl _, SV.le_lit rfl rfl, trivial⟩ ⟨Res.le_refl _, trivial⟩ rfl rfl ?_; rotate_right; rintro x rout ⟨⟨u3, hu3, rfl⟩, ⟨c, c1, c2, rfl⟩⟩; have hw3 := mem_len hu3 rfl; refine ⟨rfl, ?_⟩; conv => whnf)
    | (refine CallX.of (sRdg n L hL _ ?_ ?_ f ?_ ?_) [(1000000, 1000000)] rfl ⟨SV.le_refl _, SV.le_refl _, trivial⟩ ⟨Res.le_refl _, trivial⟩ rfl rfl ?_; rotate_right; rintro x rout ⟨⟨r1, hr1, rfl⟩, ⟨c, c1, c2, rfl⟩⟩; refine ⟨rfl, ?_⟩; conv => whnf)
    | (refine CallX.pure (z212 key u2 f (f + u1) u3 r1 hkl hw2 hw3 hr1) ⟨SV.le_refl _, SV.le_refl _, SV.le_refl _, SV.le_refl _, SV.le_refl _, trivial⟩ rfl ?_; conv => whnf)
    | (refine CallX.pure (z212 key [97, 110, 110] f (f + 60) [118, 49] ⟨f, [115, 49], 0, 0⟩ hkl (by decide) (by decide) (show ([115, 49] : List UInt8).length ≤ 8 by decide)) ⟨SV.le_refl _, SV.le_refl _, SV.le_refl _, SV.le_refl _, SV.le_refl _, trivial⟩ rfl ?_; conv => whnf)
    | (refine br_intro (fun hb => ?_) (fun hb => ?_) <;> (try simp only [decide_eq_true_eq, decide_eq_false_iff_not, Bool.not_eq_true', Bool.not_eq_false', Bool.and_eq_true, Bool.or_eq_true, beq_iff_eq, not_and, Int.not_le, Int.not_lt, Int.toNat_natCast, beq_eq_false_iff_ne, ne_eq, eq_self, not_true_eq_false, not_false_eq_true] at hb) <;> (conv => whnf))
    | (refine RegX.rule (id := 4) hT rfl [] [(0, []), (1, [0]), (2, [0, 1]), (4, [0, 1, 2]), (5, [0, 1, 2, 4]), (6, [0, 1, 2, 4, 5]), (8, [0, 1, 2, 4, 5, 6]), (9, [0, 1, 2, 4, 5, 6, 8]), (15, [0, 1, 2, 4, 5, 6, 8, 9]), (3, [0, 4, 5, 6, 8, 9, 15]), (7, [0, 4, 8, 9, 15]), (10, [0, 4, 15]), (11, [15]), (12, [15]), (13, [15]), (14, [15, 13]), (16, [14]), (17, [])] (by decide +kernel) ?_; conv => whnf)
    | (refine RegX.rule (id := 13) hT rfl [] [(0, []), (1, [0]), (2, [0, 1]), (3, [0, 1, 2]), (5, [0, 1, 2, 3]), (10, [0, 1, 2, 3, 5]), (4, [0, 1, 5, 10]), (6, [10]), (7, [10]), (8, [10]), (9, [10, 8]), (11, [9]), (12, [])] (by decide +kernel) ?_; conv => whnf)
    | (refine RegX.rule (id := 19) hT rfl [] [(0, []), (1, [0]), (2, [0, 1]), (8, [0, 1, 2]), (3, [0, 8]), (4, [8]), (5, [8]), (6, [8]), (7, [8, 6]), (9, [7]), (10, [])] (by decide +kernel) ?_; conv => whnf)
    | omega
    | (refine And.intro ?_ ?_; ((try dsimp only); first | omega | (refine ⟨by omega, by omega, Int.le_trans (Int.mul_le_mul_of_nonneg_right (Int.ofNat_le.2 (Nat.le_of_ble_eq_true (rfl : Nat.ble _ 1024 = true))) (by omega)) (by omega), by omega⟩) | (refine Nat.le_trans (Nat.mul_le_mul_left _ (Nat.le_of_ble_eq_true (rfl : Nat.ble _ 1024 = true))) ?_; omega) | (unfold inI64; omega) | (constructor <;> omega) | (simp only [inI64, List.length_cons, List.length_append, List.length_nil, List.length_set] at *; omega) | decide | (unfold inI64; decide)); conv => whnf)
    | omega | decide | assumption)
  all_goals first
    | (refine ⟨(_, i + 1), ⟨by omega, ?_, by omega⟩, (show 6 - (i + 1) < 6 - i by omega), Entails.mk' [(1000000, 1000000), (6, 6)] rfl rfl ⟨SV.le_refl _, SV.le_refl _, SV.le_refl _, SV.le_refl _, SV.le_refl _, trivial⟩ ⟨Res.le_refl _, Res.le_refl _, trivial⟩⟩
       show _ ≤ a + 20 * ((i + 1 : Nat) : Int)
       omega)
    | (have hE := fun h => hirE_start (key := key) (f := f) h hf0 hf1
       have hB := startH_B (key := key) (drv := [97, 110, 110]) (a := f) (b := f + 60) (v := [118, 49]) (o := ⟨f, [115, 49], 0, 0⟩) hkl (by decide) (by decide) (show ([115, 49] : List UInt8).length ≤ 8 by decide)
       obtain ⟨H, hH⟩ : ∃ H : Hir, H = if hirE (startH key [97, 110, 110] f (f + 60) [118, 49] ⟨f, [115, 49], 0, 0⟩) = 0 then startH key [97, 110, 110] f (f + 60) [118, 49] ⟨f, [115, 49], 0, 0⟩ else hi0 := ⟨_, rfl⟩
       have hfin : hiB 3 H := by
         subst hH
         split
         · exact hiB_le hB (by omega)
         · exact hiB_0
       have hfl : isKeyB key = true → 1 ≤ H.legs.length := fun q => by
         subst hH
         rw [if_pos (hE q)]; simp [startH]
       refine .ret _ ?_
       conv => whnf
       exact ⟨[(1000000, strm n L _)], ⟨⟨_, by rw [← hH]; exact hfin, by rw [← hH]; exact hfl, rfl⟩, _, by omega, by omega, rfl⟩, Res.le_refl _, trivial⟩)
    | skip
  all_goals
    have hE : hirE (startH key u2 f (f + u1) u3 r1) = 0 := by omega
    rw [if_pos hE]
    have hB := startH_B (key := key) (drv := u2) (a := f) (b := f + u1) (v := u3) (o := r1) hkl hw2 hw3 hr1
    have hBl : 1 ≤ (startH key u2 f (f + u1) u3 r1).legs.length := by simp [startH]
    generalize startH key u2 f (f + u1) u3 r1 = H0 at hB hBl ⊢
    repeat' (first
      | (refine CallX.of (s33 n L hL _ ?_ ?_ [0, 0, 1, 2] ?_ ?_) [(1000000, 1000000)] rfl ⟨SV.le_refl _, SV.le_lit rfl rfl, trivial⟩ ⟨Res.le_refl _, trivial⟩ rfl rfl ?_; rotate_right; rintro x rout ⟨⟨k, hk, rfl⟩, ⟨c, c1, c2, rfl⟩⟩; have hk2 := pkT hk; refine ⟨rfl, ?_⟩; conv => whnf)
      | (refine br_intro (fun hb => ?_) (fun hb => ?_) <;> (try simp only [decide_eq_true_eq, decide_eq_false_iff_not, Bool.not_eq_true', Bool.not_eq_false', Bool.and_eq_true, Bool.or_eq_true, beq_iff_eq, not_and, Int.not_le, Int.not_lt, Int.toNat_natCast, beq_eq_false_iff_ne, ne_eq, eq_self, not_true_eq_false, not_false_eq_true] at hb) <;> (conv => whnf))
      | (refine RegX.rule (id := 4) hT rfl [] [(0, []), (1, [0]), (2, [0, 1]), (4, [0, 1, 2]), (5, [0, 1, 2, 4]), (6, [0, 1, 2, 4, 5]), (8, [0, 1, 2, 4, 5, 6]), (9, [0, 1, 2, 4, 5, 6, 8]), (15, [0, 1, 2, 4, 5, 6, 8, 9]), (3, [0, 4, 5, 6, 8, 9, 15]), (7, [0, 4, 8, 9, 15]), (10, [0, 4, 15]), (11, [15]), (12, [15]), (13, [15]), (14, [15, 13]), (16, [14]), (17, [])] (by decide +kernel) ?_; conv => whnf)
      | (refine RegX.rule (id := 13) hT rfl [] [(0, []), (1, [0]), (2, [0, 1]), (3, [0, 1, 2]), (5, [0, 1, 2, 3]), (10, [0, 1, 2, 3, 5]), (4, [0, 1, 5, 10]), (6, [10]), (7, [10]), (8, [10]), (9, [10, 8]), (11, [9]), (12, [])] (by decide +kernel) ?_; conv => whnf)
      | (refine RegX.rule (id := 19) hT rfl [] [(0, []), (1, [0]), (2, [0, 1]), (8, [0, 1, 2]), (3, [0, 8]), (4, [8]), (5, [8]), (6, [8]), (7, [8, 6]), (9, [7]), (10, [])] (by decide +kernel) ?_; conv => whnf)
      | omega
      | (refine And.intro ?_ ?_; ((try dsimp only); first | omega | (refine ⟨by omega, by omega, Int.le_trans (Int.mul_le_mul_of_nonneg_right (Int.ofNat_le.2 (Nat.le_of_ble_eq_true (rfl : Nat.ble _ 1024 = true))) (by omega)) (by omega), by omega⟩) | (refine Nat.le_trans (Nat.mul_le_mul_left _ (Nat.le_of_ble_eq_true (rfl : Nat.ble _ 1024 = true))) ?_; omega) | (unfold inI64; omega) | (constructor <;> omega) | (simp only [inI64, List.length_cons, List.length_append, List.length_nil, List.length_set] at *; omega) | decide | (unfold inI64; decide)); conv => whnf)
      | omega | decide | assumption)
    obtain ⟨c0, hc0⟩ : ∃ c0, c0 = c := ⟨_, rfl⟩
    refine LoopX.rule hT (C := []) (ι := Int × Int × Hir × Nat) (fun (d, t, h, j) => (c0 ≤ d ∧ d ≤ c0 + 1 + 30 * j) ∧ (f ≤ t ∧ t ≤ f + 3000 * j) ∧ ((j : Int) ≤ k ∧ hiB (1 + j) h ∧ 1 ≤ h.legs.length))
      (fun (d, t, h, j) => mkSt [(0, .ptr 1000000 0), (6, .ptr 6 0), (8, .ptr 8 0), (10, .d (.int .i64 t)), (48, .d (.int .i64 k)), (49, .d (.int .i64 j))] [(1000000, strm n L d), (6, zcell), (8, hcell h)])
      (fun (_, _, _, j) => (k - j).toNat) (c, f, H0, 0) ⟨⟨by omega, by omega⟩, ⟨by omega, by omega⟩, ⟨by omega, hB, hBl⟩⟩ (by refine Entails.mk' [(1000000, 1000000), (6, 6), (8, 8)] rfl rfl ?_ ?_ <;> repeat' (first | exact True.intro | exact SV.le_refl _ | exact Res.le_refl _ | exact SV.le_int (by omega) | exact SV.le_any _ | refine And.intro ?_ ?_)) ?_

    rintro ⟨d, t, h, j⟩ ⟨⟨r1', r2'⟩, ⟨r3, r4⟩, ⟨r5, r6, r7⟩⟩
    have r1' : c0 ≤ d := r1'
    have r2' : d ≤ c0 + 1 + 30 * j := r2'
    have r3 : f ≤ t := r3
    have r4 : t ≤ f + 3000 * j := r4
    have r5 : (j : Int) ≤ k := r5
    have r6 : hiB (1 + j) h := r6
    have r7 : 1 ≤ h.legs.length := r7
    have hj2 : j ≤ 2 := by omega
    conv => whnf
    repeat' (first
      | (refine CallX.of (s33 n L hL _ ?_ ?_ [1, 30, 100, 500] ?_ ?_) [(1000000, 1000000)] rfl ⟨SV.le_refl _, SV.le_lit rfl rfl, trivial⟩ ⟨Res.le_refl _, trivial⟩ rfl rfl ?_; rotate_right; rintro x rout ⟨⟨v1, hv1, rfl⟩, ⟨c, c1, c2, rfl⟩⟩; have hy1 := pkD hv1 (by decide); refine ⟨rfl, ?_⟩; conv => whnf)
      | (refine br_intro (fun hb => ?_) (fun hb => ?_) <;> (try simp only [decide_eq_true_eq, decide_eq_false_iff_not, Bool.not_eq_true', Bool.not_eq_false', Bool.and_eq_true, Bool.or_eq_true, beq_iff_eq, not_and, Int.not_le, Int.not_lt, Int.toNat_natCast, beq_eq_false_iff_ne, ne_eq, eq_self, not_true_eq_false, not_false_eq_true] at hb) <;> (conv => whnf))
      | (refine RegX.rule (id := 4) hT rfl [] [(0, []), (1, [0]), (2, [0, 1]), (4, [0, 1, 2]), (5, [0, 1, 2, 4]), (6, [0, 1, 2, 4, 5]), (8, [0, 1, 2, 4, 5, 6]), (9, [0, 1, 2, 4, 5, 6, 8]), (15, [0, 1, 2, 4, 5, 6, 8, 9]), (3, [0, 4, 5, 6, 8, 9, 15]), (7, [0, 4, 8, 9, 15]), (10, [0, 4, 15]), (11, [15]), (12, [15]), (13, [15]), (14, [15, 13]), (16, [14]), (17, [])] (by decide +kernel) ?_; conv => whnf)
      | (refine RegX.rule (id := 13) hT rfl [] [(0, []), (1, [0]), (2, [0, 1]), (3, [0, 1, 2]), (5, [0, 1, 2, 3]), (10, [0, 1, 2, 3, 5]), (4, [0, 1, 5, 10]), (6, [10]), (7, [10]), (8, [10]), (9, [10, 8]), (11, [9]), (12, [])] (by decide +kernel) ?_; conv => whnf)
      | (refine RegX.rule (id := 19) hT rfl [] [(0, []), (1, [0]), (2, [0, 1]), (8, [0, 1, 2]), (3, [0, 8]), (4, [8]), (5, [8]), (6, [8]), (7, [8, 6]), (9, [7]), (10, [])] (by decide +kernel) ?_; conv => whnf)
      | omega
      | (refine And.intro ?_ ?_; ((try dsimp only); first | omega | (refine ⟨by omega, by omega, Int.le_trans (Int.mul_le_mul_of_nonneg_right (Int.ofNat_le.2 (Nat.le_of_ble_eq_true (rfl : Nat.ble _ 1024 = true))) (by omega)) (by omega), by omega⟩) | (refine Nat.le_trans (Nat.mul_le_mul_left _ (Nat.le_of_ble_eq_true (rfl : Nat.ble _ 1024 = true))) ?_; omega) | (unfold inI64; omega) | (constructor <;> omega) | (simp only [inI64, List.length_cons, List.length_append, List.length_nil, List.length_set] at *; omega) | decide | (unfold inI64; decide)); conv => whnf)
      | omega | decide | assumption)
    · refine CallX.of (sRdg n L hL _ (by omega) (by omega) (t + v1) (by omega) (by omega)) [(1000000, 1000000)] rfl ⟨SV.le_refl _, SV.le_refl _, trivial⟩ ⟨Res.le_refl _, trivial⟩ rfl rfl ?_
      rintro x rout ⟨⟨ri, hri, rfl⟩, ⟨c3, c4, c5, rfl⟩⟩
      refine ⟨rfl, ?_⟩
      conv => whnf
      repeat' (first
        | (refine br_intro (fun hb => ?_) (fun hb => ?_) <;> (try simp only [decide_eq_true_eq, decide_eq_false_iff_not, Bool.not_eq_true', Bool.not_eq_false', Bool.and_eq_true, Bool.or_eq_true, beq_iff_eq, not_and, Int.not_le, Int.not_lt, Int.toNat_natCast, beq_eq_false_iff_ne, ne_eq, eq_self, not_true_eq_false, not_false_eq_true] at hb) <;> (conv => whnf))
        | (refine RegX.rule (id := 4) hT rfl [] [(0, []), (1, [0]), (2, [0, 1]), (4, [0, 1, 2]), (5, [0, 1, 2, 4]), (6, [0, 1, 2, 4, 5]), (8, [0, 1, 2, 4, 5, 6]), (9, [0, 1, 2, 4, 5, 6, 8]), (15, [0, 1, 2, 4, 5, 6, 8, 9]), (3, [0, 4, 5, 6, 8, 9, 15]), (7, [0, 4, 8, 9, 15]), (10, [0, 4, 15]), (11, [15]), (12, [15]), (13, [15]), (14, [15, 13]), (16, [14]), (17, [])] (by decide +kernel) ?_; conv => whnf)
        | (refine RegX.rule (id := 13) hT rfl [] [(0, []), (1, [0]), (2, [0, 1]), (3, [0, 1, 2]), (5, [0, 1, 2, 3]), (10, [0, 1, 2, 3, 5]), (4, [0, 1, 5, 10]), (6, [10]), (7, [10]), (8, [10]), (9, [10, 8]), (11, [9]), (12, [])] (by decide +kernel) ?_; conv => whnf)
        | (refine RegX.rule (id := 19) hT rfl [] [(0, []), (1, [0]), (2, [0, 1]), (8, [0, 1, 2]), (3, [0, 8]), (4, [8]), (5, [8]), (6, [8]), (7, [8, 6]), (9, [7]), (10, [])] (by decide +kernel) ?_; conv => whnf)
        | omega
        | (refine And.intro ?_ ?_; ((try dsimp only); first | omega | (refine ⟨by omega, by omega, Int.le_trans (Int.mul_le_mul_of_nonneg_right (Int.ofNat_le.2 (Nat.le_of_ble_eq_true (rfl : Nat.ble _ 1024 = true))) (by omega)) (by omega), by omega⟩) | (refine Nat.le_trans (Nat.mul_le_mul_left _ (Nat.le_of_ble_eq_true (rfl : Nat.ble _ 1024 = true))) ?_; omega) | (unfold inI64; omega) | (constructor <;> omega) | (simp only [inI64, List.length_cons, List.length_append, List.length_nil, List.length_set] at *; omega) | decide | (unfold inI64; decide)); conv => whnf)
        | omega | decide | assumption)
      refine CallX.of (sRdg n L hL _ (by omega) (by omega) (t + v1) (by omega) (by omega)) [(1000000, 1000000)] rfl ⟨SV.le_refl _, SV.le_refl _, trivial⟩ ⟨Res.le_refl _, trivial⟩ rfl rfl ?_
      rintro x rout ⟨⟨ro, hro, rfl⟩, ⟨c6, c7, c8, rfl⟩⟩
      refine ⟨rfl, ?_⟩
      conv => whnf
      repeat' (first
        | (refine CallX.of (s15 n L hL _ ?_ ?_ [[118, 49], [118, 50], [118, 51], [118, 52]] (by simp) (by simp)) [(1000000, 1000000)] rfl ⟨SV.le_refl _, SV.le_lit rfl rfl, trivial⟩ ⟨Res.le_refl _, trivial⟩ rfl rfl ?_; rotate_right; rintro x rout ⟨⟨v2, hv2, rfl⟩, ⟨c, c1, c2, rfl⟩⟩; have hy2 := mem_len hv2 rfl; refine ⟨rfl, ?_⟩; conv => whnf)
        | (refine CallX.of (z214 (1 + j) (by omega) h r6 ri { ro with st := ri.st } v2 hri hri hy2) [] rfl ⟨SV.le_refl _, SV.le_refl _, SV.le_refl _, SV.le_refl _, trivial⟩ trivial rfl rfl ?_; rintro x rout ⟨⟨h5, e5, hb5, hl5, rfl⟩, rfl⟩; refine ⟨rfl, ?_⟩; conv => whnf)
        | (refine br_intro (fun hb => ?_) (fun hb => ?_) <;> (try simp only [decide_eq_true_eq, decide_eq_false_iff_not, Bool.not_eq_true', Bool.not_eq_false', Bool.and_eq_true, Bool.or_eq_true, beq_iff_eq, not_and, Int.not_le, Int.not_lt, Int.toNat_natCast, beq_eq_false_iff_ne, ne_eq, eq_self, not_true_eq_false, not_false_eq_true] at hb) <;> (conv => whnf))
        | (refine RegX.rule (id := 4) hT rfl [] [(0, []), (1, [0]), (2, [0, 1]), (4, [0, 1, 2]), (5, [0, 1, 2, 4]), (6, [0, 1, 2, 4, 5]), (8, [0, 1, 2, 4, 5, 6]), (9, [0, 1, 2, 4, 5, 6, 8]), (15, [0, 1, 2, 4, 5, 6, 8, 9]), (3, [0, 4, 5, 6, 8, 9, 15]), (7, [0, 4, 8, 9, 15]), (10, [0, 4, 15]), (11, [15]), (12, [15]), (13, [15]), (14, [15, 13]), (16, [14]), (17, [])] (by decide +kernel) ?_; conv => whnf)
        | (refine RegX.rule (id := 13) hT rfl [] [(0, []), (1, [0]), (2, [0, 1]), (3, [0, 1, 2]), (5, [0, 1, 2, 3]), (10, [0, 1, 2, 3, 5]), (4, [0, 1, 5, 10]), (6, [10]), (7, [10]), (8, [10]), (9, [10, 8]), (11, [9]), (12, [])] (by decide +kernel) ?_; conv => whnf)
        | (refine RegX.rule (id := 19) hT rfl [] [(0, []), (1, [0]), (2, [0, 1]), (8, [0, 1, 2]), (3, [0, 8]), (4, [8]), (5, [8]), (6, [8]), (7, [8, 6]), (9, [7]), (10, [])] (by decide +kernel) ?_; conv => whnf)
        | omega
        | (refine And.intro ?_ ?_; ((try dsimp only); first | omega | (refine ⟨by omega, by omega, Int.le_trans (Int.mul_le_mul_of_nonneg_right (Int.ofNat_le.2 (Nat.le_of_ble_eq_true (rfl : Nat.ble _ 1024 = true))) (by omega)) (by omega), by omega⟩) | (refine Nat.le_trans (Nat.mul_le_mul_left _ (Nat.le_of_ble_eq_true (rfl : Nat.ble _ 1024 = true))) ?_; omega) | (unfold inI64; omega) | (constructor <;> omega) | (simp only [inI64, List.length_cons, List.length_append, List.length_nil, List.length_set] at *; omega) | decide | (unfold inI64; decide)); conv => whnf)
        | omega | decide | assumption)
      · refine ⟨(_, t + v1, h5, j + 1), ⟨⟨by omega, ?_⟩, ⟨by omega, ?_⟩, ⟨by omega, hb5, hl5 (by omega)⟩⟩, (show (k - ((j + 1 : Nat) : Int)).toNat < (k - (j : Int)).toNat by omega), Entails.mk' [(1000000, 1000000), (6, 6), (8, 8)] rfl rfl ⟨SV.le_refl _, SV.le_refl _, SV.le_refl _, SV.le_refl _, SV.le_refl _, SV.le_refl _, trivial⟩ ⟨Res.le_refl _, Res.le_refl _, Res.le_refl _, trivial⟩⟩
        · show _ ≤ c0 + 1 + 30 * ((j + 1 : Nat) : Int)
          omega
        · show _ ≤ f + 3000 * ((j + 1 : Nat) : Int)
          omega
      · refine ⟨(_, t + v1, h, j + 1), ⟨⟨by omega, ?_⟩, ⟨by omega, ?_⟩, ⟨by omega, hiB_le r6 (by omega), r7⟩⟩, (show (k - ((j + 1 : Nat) : Int)).toNat < (k - (j : Int)).toNat by omega), Entails.mk' [(1000000, 1000000), (6, 6), (8, 8)] rfl rfl ⟨SV.le_refl _, SV.le_refl _, SV.le_refl _, SV.le_refl _, SV.le_refl _, SV.le_refl _, trivial⟩ ⟨Res.le_refl _, Res.le_refl _, Res.le_refl _, trivial⟩⟩
        · show _ ≤ c0 + 1 + 30 * ((j + 1 : Nat) : Int)
          omega
        · show _ ≤ f + 3000 * ((j + 1 : Nat) : Int)
          omega
    · have r6 : hiB 3 h := hiB_le r6 (by omega)
      repeat' (first
        | (refine CallX.of (s84 n L hL _ ?_ ?_ _ ?_) [(1000000, 1000000)] rfl ⟨SV.le_refl _, SV.le_refl _, trivial⟩ ⟨Res.le_refl _, trivial⟩ rfl rfl ?_; rotate_right; rintro x rout ⟨⟨w, rfl⟩, ⟨c, c1, c2, rfl⟩⟩; refine ⟨rfl, ?_⟩; conv => whnf)
        | (refine CallX.of (s33 n L hL _ ?_ ?_ [1, 50, 100, 1440, 1470, 1471, 1500, 3000] ?_ ?_) [(1000000, 1000000)] rfl ⟨SV.le_refl _, SV.le_lit rfl rfl, trivial⟩ ⟨Res.le_refl _, trivial⟩ rfl rfl ?_; rotate_right; rintro x rout ⟨⟨v1, hv1, rfl⟩, ⟨c, c1, c2, rfl⟩⟩; have hy1 := pkD hv1 (by decide); refine ⟨rfl, ?_⟩; conv => whnf)
        | (refine CallX.of (sRdg n L hL _ ?_ ?_ (t + v1) ?_ ?_) [(1000000, 1000000)] rfl ⟨SV.le_refl _, SV.le_refl _, trivial⟩ ⟨Res.le_refl _, trivial⟩ rfl rfl ?_; rotate_right; rintro x rout ⟨⟨ri, hri, rfl⟩, ⟨c9, c10, c11, rfl⟩⟩; refine ⟨rfl, ?_⟩; conv => whnf)
        | (refine CallX.of (z215 3 (by omega) h r6 ri hri) [] rfl ⟨SV.le_refl _, SV.le_refl _, trivial⟩ trivial rfl rfl ?_; rintro x rout ⟨⟨h5, e5, hb5, hl5, rfl⟩, rfl⟩; refine ⟨rfl, ?_⟩; conv => whnf)
        | (refine br_intro (fun hb => ?_) (fun hb => ?_) <;> (try simp only [decide_eq_true_eq, decide_eq_false_iff_not, Bool.not_eq_true', Bool.not_eq_false', Bool.and_eq_true, Bool.or_eq_true, beq_iff_eq, not_and, Int.not_le, Int.not_lt, Int.toNat_natCast, beq_eq_false_iff_ne, ne_eq, eq_self, not_true_eq_false, not_false_eq_true] at hb) <;> (conv => whnf))
        | (refine RegX.rule (id := 4) hT rfl [] [(0, []), (1, [0]), (2, [0, 1]), (4, [0, 1, 2]), (5, [0, 1, 2, 4]), (6, [0, 1, 2, 4, 5]), (8, [0, 1, 2, 4, 5, 6]), (9, [0, 1, 2, 4, 5, 6, 8]), (15, [0, 1, 2, 4, 5, 6, 8, 9]), (3, [0, 4, 5, 6, 8, 9, 15]), (7, [0, 4, 8, 9, 15]), (10, [0, 4, 15]), (11, [15]), (12, [15]), (13, [15]), (14, [15, 13]), (16, [14]), (17, [])] (by decide +kernel) ?_; conv => whnf)
        | (refine RegX.rule (id := 13) hT rfl [] [(0, []), (1, [0]), (2, [0, 1]), (3, [0, 1, 2]), (5, [0, 1, 2, 3]), (10, [0, 1, 2, 3, 5]), (4, [0, 1, 5, 10]), (6, [10]), (7, [10]), (8, [10]), (9, [10, 8]), (11, [9]), (12, [])] (by decide +kernel) ?_; conv => whnf)
        | (refine RegX.rule (id := 19) hT rfl [] [(0, []), (1, [0]), (2, [0, 1]), (8, [0, 1, 2]), (3, [0, 8]), (4, [8]), (5, [8]), (6, [8]), (7, [8, 6]), (9, [7]), (10, [])] (by decide +kernel) ?_; conv => whnf)
        | omega
        | (refine And.intro ?_ ?_; ((try dsimp only); first | omega | (refine ⟨by omega, by omega, Int.le_trans (Int.mul_le_mul_of_nonneg_right (Int.ofNat_le.2 (Nat.le_of_ble_eq_true (rfl : Nat.ble _ 1024 = true))) (by omega)) (by omega), by omega⟩) | (refine Nat.le_trans (Nat.mul_le_mul_left _ (Nat.le_of_ble_eq_true (rfl : Nat.ble _ 1024 = true))) ?_; omega) | (unfold inI64; omega) | (constructor <;> omega) | (simp only [inI64, List.length_cons, List.length_append, List.length_nil, List.length_set] at *; omega) | decide | (unfold inI64; decide)); conv => whnf)
        | omega | decide | assumption)
      all_goals first
        | (refine .ret _ ?_
           conv => whnf
           exact ⟨[(1000000, strm n L _)], ⟨⟨h, r6, fun _ => r7, rfl⟩, _, by omega, by omega, rfl⟩, Res.le_refl _, trivial⟩)
        | (refine .ret _ ?_
           conv => whnf
           exact ⟨[(1000000, strm n L _)], ⟨⟨h5, hb5, fun _ => hl5 (by omega), rfl⟩, _, by omega, by omega, rfl⟩, Res.le_refl _, trivial⟩)
end Go.Proofs.YtnkdlkgannnfhaaGreatDoor
set_option maxRecDepth 20000
namespace Go.Proofs.YtnkdlkgannnfhaaGreatDoor
open Go Go.Eng
-- Hire
set_option maxHeartbeats 4000000 in
theorem sHir (n : Nat) (L : Nat → Int) (hL : Rok n L) (a : Int) (h0 : 0 ≤ a) (ha : a ≤ 2^36) :
    FSpec Tryz.prog 129 [.ptr 1000000 0] [(1000000, strm n L a)] (fun y r => (∃ h : Hir, hiB 3 h ∧ y = .agg ((hiF h).map .d)) ∧ Moved n L a 500 r) := by
  refine spec_of hT (C := []) Tryz.func129 rfl Tryz.call129 rfl rfl rfl ?_
  conv => whnf
  repeat' (first
    | (refine CallX.of (s33 n L hL _ ?_ ?_ [0, 100, 1440] ?_ ?_) [(1000000, 1000000)] rfl ⟨SV.le_refl _, SV.le_lit rfl rfl, trivial⟩ ⟨Res.le_refl _, trivial⟩ rfl rfl ?_; rotate_right; rintro x rout ⟨⟨u1, hu1, rfl⟩, ⟨c, c1, c2, rfl⟩⟩; have hw1 := pkD hu1 (by decide); refine ⟨rfl, ?_⟩; conv => whnf)
    | (refine CallX.of (sRh n L hL _ ?_ ?_ [104, 49] (by decide) u1 hw1.1 ?_) [(1000000, 1000000)] rfl ⟨SV.le_refl _, SV.le_refl _, SV.le_refl _, trivial⟩ ⟨Res.le_refl _, trivial⟩ rfl rfl ?_; rotate_right; rintro x rout ⟨⟨h, hh, hhl, rfl⟩, ⟨c, c1, c2, rfl⟩⟩; refine ⟨rfl, ?_⟩; conv => whnf)
    | (refine CallX.of (s84 n L hL _ ?_ ?_ _ ?_) [(1000000, 1000000)] rfl ⟨SV.le_refl _, SV.le_refl _, trivial⟩ ⟨Res.le_refl _, trivial⟩ rfl rfl ?_; rotate_right; rintro x rout ⟨⟨w, rfl⟩, ⟨c, c1, c2, rfl⟩⟩; refine ⟨rfl, ?_⟩; conv => whnf)
    | (refine br_intro (fun hb => ?_) (fun hb => ?_) <;> (try simp only [decide_eq_true_eq, decide_eq_false_iff_not, Bool.not_eq_true', Bool.not_eq_false', Bool.and_eq_true, Bool.or_eq_true, beq_iff_eq, not_and, Int.not_le, Int.not_lt, Int.toNat_natCast, beq_eq_false_iff_ne, ne_eq, eq_self, not_true_eq_false, not_false_eq_true] at hb) <;> (conv => whnf))
    | (refine RegX.rule (id := 15) hT rfl [] [(0, []), (1, []), (2, [0, 1]), (3, [0, 1, 2]), (4, [0, 1, 2]), (5, [0, 1, 2]), (6, [0, 1]), (7, []), (8, [])] (by decide +kernel) ?_; conv => whnf)
    | (refine RegX.rule (id := 18) hT rfl [] [(0, []), (1, []), (2, [0, 1]), (3, [0, 1, 2]), (4, [0, 1, 2]), (5, [0, 1, 2]), (6, [0, 1]), (7, []), (8, [])] (by decide +kernel) ?_; conv => whnf)
    | (refine RegX.rule (id := 6) hT rfl [] [(0, []), (1, []), (2, [0, 1]), (3, [0, 1, 2]), (4, [0, 1, 2]), (5, [0, 1, 2]), (6, [0, 1]), (7, []), (8, [])] (by decide +kernel) ?_; conv => whnf)
    | omega
    | (refine And.intro ?_ ?_; ((try dsimp only); first | omega | (refine ⟨by omega, by omega, Int.le_trans (Int.mul_le_mul_of_nonneg_right (Int.ofNat_le.2 (Nat.le_of_ble_eq_true (rfl : Nat.ble _ 1024 = true))) (by omega)) (by omega), by omega⟩) | (refine Nat.le_trans (Nat.mul_le_mul_left _ (Nat.le_of_ble_eq_true (rfl : Nat.ble _ 1024 = true))) ?_; omega) | (unfold inI64; omega) | (constructor <;> omega) | (simp only [inI64, List.length_cons, List.length_append, List.length_nil, List.length_set] at *; omega) | decide | (unfold inI64; decide)); conv => whnf)
    | omega | decide | assumption)
  · refine .ret _ ?_
    conv => whnf
    exact ⟨[(1000000, strm n L _)], ⟨⟨h, hh, rfl⟩, _, by omega, by omega, rfl⟩, Res.le_refl _, trivial⟩
  have hn : 1 ≤ h.legs.length := hhl (by decide)
  have hl3 := hh.2.2.1
  refine CallX.of (z216 h.legs hn (by omega)) [(7, 30)] rfl ⟨SV.le_refl _, trivial⟩ trivial rfl rfl ?_
  rintro x rout ⟨rfl, rfl⟩
  refine ⟨rfl, ?_⟩
  conv => whnf
  repeat' (first
    | (refine CallX.of (s86 n L hL _ ?_ ?_ 6 ?_) [(1000000, 1000000)] rfl ⟨SV.le_refl _, SV.le_refl _, trivial⟩ ⟨Res.le_refl _, trivial⟩ rfl rfl ?_; rotate_right; rintro x rout ⟨⟨z, hz1, hz2, hz3, rfl⟩, ⟨c, c1, c2, rfl⟩⟩; refine ⟨rfl, ?_⟩; conv => whnf)
    | (refine br_intro (fun hb => ?_) (fun hb => ?_) <;> (try simp only [decide_eq_true_eq, decide_eq_false_iff_not, Bool.not_eq_true', Bool.not_eq_false', Bool.and_eq_true, Bool.or_eq_true, beq_iff_eq, not_and, Int.not_le, Int.not_lt, Int.toNat_natCast, beq_eq_false_iff_ne, ne_eq, eq_self, not_true_eq_false, not_false_eq_true] at hb) <;> (conv => whnf))
    | (refine RegX.rule (id := 15) hT rfl [] [(0, []), (1, []), (2, [0, 1]), (3, [0, 1, 2]), (4, [0, 1, 2]), (5, [0, 1, 2]), (6, [0, 1]), (7, []), (8, [])] (by decide +kernel) ?_; conv => whnf)
    | (refine RegX.rule (id := 18) hT rfl [] [(0, []), (1, []), (2, [0, 1]), (3, [0, 1, 2]), (4, [0, 1, 2]), (5, [0, 1, 2]), (6, [0, 1]), (7, []), (8, [])] (by decide +kernel) ?_; conv => whnf)
    | (refine RegX.rule (id := 6) hT rfl [] [(0, []), (1, []), (2, [0, 1]), (3, [0, 1, 2]), (4, [0, 1, 2]), (5, [0, 1, 2]), (6, [0, 1]), (7, []), (8, [])] (by decide +kernel) ?_; conv => whnf)
    | omega
    | (refine And.intro ?_ ?_; ((try dsimp only); first | omega | (refine ⟨by omega, by omega, Int.le_trans (Int.mul_le_mul_of_nonneg_right (Int.ofNat_le.2 (Nat.le_of_ble_eq_true (rfl : Nat.ble _ 1024 = true))) (by omega)) (by omega), by omega⟩) | (refine Nat.le_trans (Nat.mul_le_mul_left _ (Nat.le_of_ble_eq_true (rfl : Nat.ble _ 1024 = true))) ?_; omega) | (unfold inI64; omega) | (constructor <;> omega) | (simp only [inI64, List.length_cons, List.length_append, List.length_nil, List.length_set] at *; omega) | decide | (unfold inI64; decide)); conv => whnf)
    | omega | decide | assumption)
  · repeat' (first
      | (refine CallX.of (s15 n L hL _ ?_ ?_ [[104, 49], [], [65]] (by simp) (by simp)) [(1000000, 1000000)] rfl ⟨SV.le_refl _, SV.le_lit rfl rfl, trivial⟩ ⟨Res.le_refl _, trivial⟩ rfl rfl ?_; rotate_right; rintro x rout ⟨⟨u2, hu2, rfl⟩, ⟨c, c1, c2, rfl⟩⟩; have hw2 := mem_len hu2 rfl; refine ⟨rfl, ?_⟩; conv => whnf)
      | (refine CallX.of (s15 n L hL _ ?_ ?_ [[97, 110, 110], []] (by simp) (by simp)) [(1000000, 1000000)] rfl ⟨SV.le_refl _, SV.le_lit rfl rfl, trivial⟩ ⟨Res.le_refl _, trivial⟩ rfl rfl ?_; rotate_right; rintro x rout ⟨⟨u3, hu3, rfl⟩, ⟨c, c1, c2, rfl⟩⟩; have hw3 := mem_len hu3 rfl; refine ⟨rfl, ?_⟩; conv => whnf)
      | (refine br_intro (fun hb => ?_) (fun hb => ?_) <;> (try simp only [decide_eq_true_eq, decide_eq_false_iff_not, Bool.not_eq_true', Bool.not_eq_false', Bool.and_eq_true, Bool.or_eq_true, beq_iff_eq, not_and, Int.not_le, Int.not_lt, Int.toNat_natCast, beq_eq_false_iff_ne, ne_eq, eq_self, not_true_eq_false, not_false_eq_true] at hb) <;> (conv => whnf))
      | (refine RegX.rule (id := 15) hT rfl [] [(0, []), (1, []), (2, [0, 1]), (3, [0, 1, 2]), (4, [0, 1, 2]), (5, [0, 1, 2]), (6, [0, 1]), (7, []), (8, [])] (by decide +kernel) ?_; conv => whnf)
      | (refine RegX.rule (id := 18) hT rfl [] [(0, []), (1, []), (2, [0, 1]), (3, [0, 1, 2]), (4, [0, 1, 2]), (5, [0, 1, 2]), (6, [0, 1]), (7, []), (8, [])] (by decide +kernel) ?_; conv => whnf)
      | (refine RegX.rule (id := 6) hT rfl [] [(0, []), (1, []), (2, [0, 1]), (3, [0, 1, 2]), (4, [0, 1, 2]), (5, [0, 1, 2]), (6, [0, 1]), (7, []), (8, [])] (by decide +kernel) ?_; conv => whnf)
      | omega
      | (refine And.intro ?_ ?_; ((try dsimp only); first | omega | (refine ⟨by omega, by omega, Int.le_trans (Int.mul_le_mul_of_nonneg_right (Int.ofNat_le.2 (Nat.le_of_ble_eq_true (rfl : Nat.ble _ 1024 = true))) (by omega)) (by omega), by omega⟩) | (refine Nat.le_trans (Nat.mul_le_mul_left _ (Nat.le_of_ble_eq_true (rfl : Nat.ble _ 1024 = true))) ?_; omega) | (unfold inI64; omega) | (constructor <;> omega) | (simp only [inI64, List.length_cons, List.length_append, List.length_nil, List.length_set] at *; omega) | decide | (unfold inI64; decide)); conv => whnf)
      | omega | decide | assumption)
    refine .freeze _ 30 248 9 _ _ rfl (.ent _ _ (Entails.froCell 2 30 9 _ 4 _ rfl rfl rfl) (.weak _ ?_))
    conv => whnf
    exact ⟨_, [(1000000, strm n L _)], SV.le_refl _, ⟨⟨⟨u2, u3, h.frm, h.to, h.legs⟩, ⟨hw2, hw3, hl3, hh.2.2.2⟩, rfl⟩, _, by omega, by omega, rfl⟩, Res.le_refl _, trivial⟩
  · repeat' (first
      | (refine CallX.of (sTim n L hL _ ?_ ?_) [(1000000, 1000000)] rfl ⟨SV.le_refl _, trivial⟩ ⟨Res.le_refl _, trivial⟩ rfl rfl ?_; rotate_right; rintro x rout ⟨⟨t1, t2, rfl⟩, ⟨c3, c4, c5, rfl⟩⟩; refine ⟨rfl, ?_⟩; conv => whnf)
      | (refine br_intro (fun hb => ?_) (fun hb => ?_) <;> (try simp only [decide_eq_true_eq, decide_eq_false_iff_not, Bool.not_eq_true', Bool.not_eq_false', Bool.and_eq_true, Bool.or_eq_true, beq_iff_eq, not_and, Int.not_le, Int.not_lt, Int.toNat_natCast, beq_eq_false_iff_ne, ne_eq, eq_self, not_true_eq_false, not_false_eq_true] at hb) <;> (conv => whnf))
      | (refine RegX.rule (id := 15) hT rfl [] [(0, []), (1, []), (2, [0, 1]), (3, [0, 1, 2]), (4, [0, 1, 2]), (5, [0, 1, 2]), (6, [0, 1]), (7, []), (8, [])] (by decide +kernel) ?_; conv => whnf)
      | (refine RegX.rule (id := 18) hT rfl [] [(0, []), (1, []), (2, [0, 1]), (3, [0, 1, 2]), (4, [0, 1, 2]), (5, [0, 1, 2]), (6, [0, 1]), (7, []), (8, [])] (by decide +kernel) ?_; conv => whnf)
      | (refine RegX.rule (id := 6) hT rfl [] [(0, []), (1, []), (2, [0, 1]), (3, [0, 1, 2]), (4, [0, 1, 2]), (5, [0, 1, 2]), (6, [0, 1]), (7, []), (8, [])] (by decide +kernel) ?_; conv => whnf)
      | omega
      | (refine And.intro ?_ ?_; ((try dsimp only); first | omega | (refine ⟨by omega, by omega, Int.le_trans (Int.mul_le_mul_of_nonneg_right (Int.ofNat_le.2 (Nat.le_of_ble_eq_true (rfl : Nat.ble _ 1024 = true))) (by omega)) (by omega), by omega⟩) | (refine Nat.le_trans (Nat.mul_le_mul_left _ (Nat.le_of_ble_eq_true (rfl : Nat.ble _ 1024 = true))) ?_; omega) | (unfold inI64; omega) | (constructor <;> omega) | (simp only [inI64, List.length_cons, List.length_append, List.length_nil, List.length_set] at *; omega) | decide | (unfold inI64; decide)); conv => whnf)
      | omega | decide | assumption)
    refine .freeze _ 30 248 9 _ _ rfl (.ent _ _ (Entails.froCell 2 30 9 _ 4 _ rfl rfl rfl) (.weak _ ?_))
    conv => whnf
    exact ⟨_, [(1000000, strm n L _)], SV.le_refl _, ⟨⟨⟨h.key, h.drv, t1, t2, h.legs⟩, ⟨hh.1, hh.2.1, hl3, hh.2.2.2⟩, rfl⟩, _, by omega, by omega, rfl⟩, Res.le_refl _, trivial⟩
  · refine .weak _ ?_
    conv => whnf
    exact ⟨.agg ((hiF ⟨h.key, h.drv, h.frm, h.to, []⟩).map .d), [(1000000, strm n L _)], SV.le_agg ⟨SV.le_refl _, SV.le_refl _, SV.le_refl _, SV.le_refl _, SV.le_nilS, trivial⟩, ⟨⟨⟨h.key, h.drv, h.frm, h.to, []⟩, ⟨hh.1, hh.2.1, by simp, fun x hx => by cases hx⟩, rfl⟩, _, by omega, by omega, rfl⟩, Res.le_refl _, trivial⟩
  · repeat' (first
      | (refine CallX.of (s86 n L hL _ ?_ ?_ _ ?_) [(1000000, 1000000)] rfl ⟨SV.le_refl _, SV.le_refl _, trivial⟩ ⟨Res.le_refl _, trivial⟩ rfl rfl ?_; rotate_right; rintro x rout ⟨⟨j, hj1, hj2, hj3, rfl⟩, ⟨c, c1, c2, rfl⟩⟩; refine ⟨rfl, ?_⟩; conv => whnf)
      | (refine CallX.of (s15 n L hL _ ?_ ?_ [[118, 49], [], [65]] (by simp) (by simp)) [(1000000, 1000000)] rfl ⟨SV.le_refl _, SV.le_lit rfl rfl, trivial⟩ ⟨Res.le_refl _, trivial⟩ rfl rfl ?_; rotate_right; rintro x rout ⟨⟨u2, hu2, rfl⟩, ⟨c, c1, c2, rfl⟩⟩; have hw2 := mem_len hu2 rfl; refine ⟨rfl, ?_⟩; conv => whnf)
      | (refine CallX.of (s104 n L hL _ ?_ ?_ 0 500 ?_ ?_ ?_) [(1000000, 1000000)] rfl ⟨SV.le_refl _, SV.le_refl _, SV.le_refl _, trivial⟩ ⟨Res.le_refl _, trivial⟩ rfl rfl ?_; rotate_right; rintro x rout ⟨⟨u3, hk1, hk2, rfl⟩, ⟨c, c1, c2, rfl⟩⟩; refine ⟨rfl, ?_⟩; conv => whnf)
      | (refine br_intro (fun hb => ?_) (fun hb => ?_) <;> (try simp only [decide_eq_true_eq, decide_eq_false_iff_not, Bool.not_eq_true', Bool.not_eq_false', Bool.and_eq_true, Bool.or_eq_true, beq_iff_eq, not_and, Int.not_le, Int.not_lt, Int.toNat_natCast, beq_eq_false_iff_ne, ne_eq, eq_self, not_true_eq_false, not_false_eq_true] at hb) <;> (conv => whnf))
      | (refine RegX.rule (id := 15) hT rfl [] [(0, []), (1, []), (2, [0, 1]), (3, [0, 1, 2]), (4, [0, 1, 2]), (5, [0, 1, 2]), (6, [0, 1]), (7, []), (8, [])] (by decide +kernel) ?_; conv => whnf)
      | (refine RegX.rule (id := 18) hT rfl [] [(0, []), (1, []), (2, [0, 1]), (3, [0, 1, 2]), (4, [0, 1, 2]), (5, [0, 1, 2]), (6, [0, 1]), (7, []), (8, [])] (by decide +kernel) ?_; conv => whnf)
      | (refine RegX.rule (id := 6) hT rfl [] [(0, []), (1, []), (2, [0, 1]), (3, [0, 1, 2]), (4, [0, 1, 2]), (5, [0, 1, 2]), (6, [0, 1]), (7, []), (8, [])] (by decide +kernel) ?_; conv => whnf)
      | omega
      | (refine And.intro ?_ ?_; ((try dsimp only); first | omega | (refine ⟨by omega, by omega, Int.le_trans (Int.mul_le_mul_of_nonneg_right (Int.ofNat_le.2 (Nat.le_of_ble_eq_true (rfl : Nat.ble _ 1024 = true))) (by omega)) (by omega), by omega⟩) | (refine Nat.le_trans (Nat.mul_le_mul_left _ (Nat.le_of_ble_eq_true (rfl : Nat.ble _ 1024 = true))) ?_; omega) | (unfold inI64; omega) | (constructor <;> omega) | (simp only [inI64, List.length_cons, List.length_append, List.length_nil, List.length_set] at *; omega) | decide | (unfold inI64; decide)); conv => whnf)
      | omega | decide | assumption)
    refine .freeze _ 30 248 9 _ _ rfl (.ent _ _ (Entails.froCell 2 30 9 _ 4 _ rfl rfl rfl) (.weak _ ?_))
    conv => whnf
    exact ⟨.agg ((hiF ⟨h.key, h.drv, h.frm, h.to, updL (updL h.legs j.toNat lg0 (fun y => { y with veh := u2 })) j.toNat lg0 (fun y => { y with out := { y.out with tm := u3 } })⟩).map .d), [(1000000, strm n L _)],
      SV.le_agg ⟨SV.le_refl _, SV.le_refl _, SV.le_refl _, SV.le_refl _, SV.le_upd2 (f := lgF) (d := lg0) (fun y : Leg => { y with veh := u2 }) (fun y => { y with out := { y.out with tm := u3 } }) (fun _ => rfl) (fun _ => rfl), trivial⟩,
      ⟨⟨⟨h.key, h.drv, h.frm, h.to, updL (updL h.legs j.toNat lg0 (fun y => { y with veh := u2 })) j.toNat lg0 (fun y => { y with out := { y.out with tm := u3 } })⟩, ⟨hh.1, hh.2.1, (by simp; omega), (allK_upd (g := fun y : Leg => { y with out := { y.out with tm := u3 } }) (allK_upd (g := fun y : Leg => { y with veh := u2 }) (k := 3) ⟨hl3, hh.2.2.2⟩ (fun y hy => ⟨hw2, hy.2.1, hy.2.2⟩)) (fun y hy => ⟨hy.1, hy.2.1, hy.2.2⟩)).2⟩, rfl⟩, _, by omega, by omega, rfl⟩, Res.le_refl _, trivial⟩
  · repeat' (first
      | (refine CallX.of (s86 n L hL _ ?_ ?_ _ ?_) [(1000000, 1000000)] rfl ⟨SV.le_refl _, SV.le_refl _, trivial⟩ ⟨Res.le_refl _, trivial⟩ rfl rfl ?_; rotate_right; rintro x rout ⟨⟨j, hj1, hj2, hj3, rfl⟩, ⟨c, c1, c2, rfl⟩⟩; refine ⟨rfl, ?_⟩; conv => whnf)
      | (refine CallX.of (s33 n L hL _ ?_ ?_ [-1, 0, 100, 5000] ?_ ?_) [(1000000, 1000000)] rfl ⟨SV.le_refl _, SV.le_lit rfl rfl, trivial⟩ ⟨Res.le_refl _, trivial⟩ rfl rfl ?_; rotate_right; rintro x rout ⟨⟨u2, hu2, rfl⟩, ⟨c, c1, c2, rfl⟩⟩; have hw2 : -1 ≤ u2 ∧ u2 ≤ 5000 := (by simp at hu2; omega); refine ⟨rfl, ?_⟩; conv => whnf)
      | (refine CallX.of (sRdg n L hL _ ?_ ?_ u2 ?_ ?_) [(1000000, 1000000)] rfl ⟨SV.le_refl _, SV.le_refl _, trivial⟩ ⟨Res.le_refl _, trivial⟩ rfl rfl ?_; rotate_right; rintro x rout ⟨⟨ri, hri, rfl⟩, ⟨c3, c4, c5, rfl⟩⟩; refine ⟨rfl, ?_⟩; conv => whnf)
      | (refine br_intro (fun hb => ?_) (fun hb => ?_) <;> (try simp only [decide_eq_true_eq, decide_eq_false_iff_not, Bool.not_eq_true', Bool.not_eq_false', Bool.and_eq_true, Bool.or_eq_true, beq_iff_eq, not_and, Int.not_le, Int.not_lt, Int.toNat_natCast, beq_eq_false_iff_ne, ne_eq, eq_self, not_true_eq_false, not_false_eq_true] at hb) <;> (conv => whnf))
      | (refine RegX.rule (id := 15) hT rfl [] [(0, []), (1, []), (2, [0, 1]), (3, [0, 1, 2]), (4, [0, 1, 2]), (5, [0, 1, 2]), (6, [0, 1]), (7, []), (8, [])] (by decide +kernel) ?_; conv => whnf)
      | (refine RegX.rule (id := 18) hT rfl [] [(0, []), (1, []), (2, [0, 1]), (3, [0, 1, 2]), (4, [0, 1, 2]), (5, [0, 1, 2]), (6, [0, 1]), (7, []), (8, [])] (by decide +kernel) ?_; conv => whnf)
      | (refine RegX.rule (id := 6) hT rfl [] [(0, []), (1, []), (2, [0, 1]), (3, [0, 1, 2]), (4, [0, 1, 2]), (5, [0, 1, 2]), (6, [0, 1]), (7, []), (8, [])] (by decide +kernel) ?_; conv => whnf)
      | omega
      | (refine And.intro ?_ ?_; ((try dsimp only); first | omega | (refine ⟨by omega, by omega, Int.le_trans (Int.mul_le_mul_of_nonneg_right (Int.ofNat_le.2 (Nat.le_of_ble_eq_true (rfl : Nat.ble _ 1024 = true))) (by omega)) (by omega), by omega⟩) | (refine Nat.le_trans (Nat.mul_le_mul_left _ (Nat.le_of_ble_eq_true (rfl : Nat.ble _ 1024 = true))) ?_; omega) | (unfold inI64; omega) | (constructor <;> omega) | (simp only [inI64, List.length_cons, List.length_append, List.length_nil, List.length_set] at *; omega) | decide | (unfold inI64; decide)); conv => whnf)
      | omega | decide | assumption)
    refine .freeze _ 30 248 9 _ _ rfl (.ent _ _ (Entails.froCell 2 30 9 _ 4 _ rfl rfl rfl) (.weak _ ?_))
    conv => whnf
    exact ⟨.agg ((hiF ⟨h.key, h.drv, h.frm, h.to, updL h.legs j.toNat lg0 (fun y => { y with inn := ri })⟩).map .d), [(1000000, strm n L _)],
      SV.le_agg ⟨SV.le_refl _, SV.le_refl _, SV.le_refl _, SV.le_refl _, SV.le_ro (by simp) (fun i hi => rows_updG (f := lgF) (d := lg0) (fun _ _ => rfl) (fun y : Leg => { y with inn := ri }) (fun _ => rfl) i (by simpa using hi)), trivial⟩,
      ⟨⟨⟨h.key, h.drv, h.frm, h.to, updL h.legs j.toNat lg0 (fun y => { y with inn := ri })⟩, ⟨hh.1, hh.2.1, (by simp; omega), (allK_upd (g := fun y : Leg => { y with inn := ri }) (k := 3) ⟨hl3, hh.2.2.2⟩ (fun y hy => ⟨hy.1, hy.2.1, hri⟩)).2⟩, rfl⟩, _, by omega, by omega, rfl⟩, Res.le_refl _, trivial⟩
  · repeat' (first
      | (refine CallX.of (s86 n L hL _ ?_ ?_ _ ?_) [(1000000, 1000000)] rfl ⟨SV.le_refl _, SV.le_refl _, trivial⟩ ⟨Res.le_refl _, trivial⟩ rfl rfl ?_; rotate_right; rintro x rout ⟨⟨j, hj1, hj2, hj3, rfl⟩, ⟨c, c1, c2, rfl⟩⟩; refine ⟨rfl, ?_⟩; conv => whnf)
      | (refine CallX.of (s33 n L hL _ ?_ ?_ [0, 0, 1] ?_ ?_) [(1000000, 1000000)] rfl ⟨SV.le_refl _, SV.le_lit rfl rfl, trivial⟩ ⟨Res.le_refl _, trivial⟩ rfl rfl ?_; rotate_right; rintro x rout ⟨⟨u2, hu2, rfl⟩, ⟨c, c1, c2, rfl⟩⟩; refine ⟨rfl, ?_⟩; conv => whnf)
      | (refine br_intro (fun hb => ?_) (fun hb => ?_) <;> (try simp only [decide_eq_true_eq, decide_eq_false_iff_not, Bool.not_eq_true', Bool.not_eq_false', Bool.and_eq_true, Bool.or_eq_true, beq_iff_eq, not_and, Int.not_le, Int.not_lt, Int.toNat_natCast, beq_eq_false_iff_ne, ne_eq, eq_self, not_true_eq_false, not_false_eq_true] at hb) <;> (conv => whnf))
      | (refine RegX.rule (id := 15) hT rfl [] [(0, []), (1, []), (2, [0, 1]), (3, [0, 1, 2]), (4, [0, 1, 2]), (5, [0, 1, 2]), (6, [0, 1]), (7, []), (8, [])] (by decide +kernel) ?_; conv => whnf)
      | (refine RegX.rule (id := 18) hT rfl [] [(0, []), (1, []), (2, [0, 1]), (3, [0, 1, 2]), (4, [0, 1, 2]), (5, [0, 1, 2]), (6, [0, 1]), (7, []), (8, [])] (by decide +kernel) ?_; conv => whnf)
      | (refine RegX.rule (id := 6) hT rfl [] [(0, []), (1, []), (2, [0, 1]), (3, [0, 1, 2]), (4, [0, 1, 2]), (5, [0, 1, 2]), (6, [0, 1]), (7, []), (8, [])] (by decide +kernel) ?_; conv => whnf)
      | omega
      | (refine And.intro ?_ ?_; ((try dsimp only); first | omega | (refine ⟨by omega, by omega, Int.le_trans (Int.mul_le_mul_of_nonneg_right (Int.ofNat_le.2 (Nat.le_of_ble_eq_true (rfl : Nat.ble _ 1024 = true))) (by omega)) (by omega), by omega⟩) | (refine Nat.le_trans (Nat.mul_le_mul_left _ (Nat.le_of_ble_eq_true (rfl : Nat.ble _ 1024 = true))) ?_; omega) | (unfold inI64; omega) | (constructor <;> omega) | (simp only [inI64, List.length_cons, List.length_append, List.length_nil, List.length_set] at *; omega) | decide | (unfold inI64; decide)); conv => whnf)
      | omega | decide | assumption)
    refine .freeze _ 30 248 9 _ _ rfl (.ent _ _ (Entails.froCell 2 30 9 _ 4 _ rfl rfl rfl) (.weak _ ?_))
    conv => whnf
    exact ⟨.agg ((hiF ⟨h.key, h.drv, h.frm, h.to, updL h.legs j.toNat lg0 (fun y => { y with inn := ⟨-1, [], u2, 0⟩ })⟩).map .d), [(1000000, strm n L _)],
      SV.le_agg ⟨SV.le_refl _, SV.le_refl _, SV.le_refl _, SV.le_refl _, SV.le_ro (by simp) (fun i hi => rows_updG (f := lgF) (d := lg0) (fun _ _ => rfl) (fun y : Leg => { y with inn := ⟨-1, [], u2, 0⟩ }) (fun _ => rfl) i (by simpa using hi)), trivial⟩,
      ⟨⟨⟨h.key, h.drv, h.frm, h.to, updL h.legs j.toNat lg0 (fun y => { y with inn := ⟨-1, [], u2, 0⟩ })⟩, ⟨hh.1, hh.2.1, (by simp; omega), (allK_upd (g := fun y : Leg => { y with inn := ⟨-1, [], u2, 0⟩ }) (k := 3) ⟨hl3, hh.2.2.2⟩ (fun y hy => ⟨hy.1, hy.2.1, by simp [rgB]⟩)).2⟩, rfl⟩, _, by omega, by omega, rfl⟩, Res.le_refl _, trivial⟩
end Go.Proofs.YtnkdlkgannnfhaaGreatDoor
set_option maxRecDepth 20000
namespace Go.Proofs.YtnkdlkgannnfhaaGreatDoor
open Go Go.Eng
def k4 : List (List UInt8) := [[104, 49], [104, 50], [104, 51], [104, 52]]
-- Hires
set_option maxHeartbeats 4000000 in
theorem sHirs (n : Nat) (L : Nat → Int) (hL : Rok n L) (a : Int) (h0 : 0 ≤ a) (ha : a ≤ 2^35) (m : Int) (hm0 : 0 ≤ m) (hm : m ≤ 4) :
    FSpec Tryz.prog 35 [.ptr 1000000 0, .d (.int .i64 m)] [(1000000, strm n L a)] (fun y r => (∃ l : List Hir, allK (hiB 3) 5 l ∧ y = .d (hirs l)) ∧ Moved n L a 3000 r) := by
  refine spec_of hT (C := []) Tryz.func35 rfl Tryz.call35 rfl rfl rfl ?_
  conv => whnf
  repeat' (first
    | (refine And.intro (show (0 : Int) ≤ 0 ∧ 0 ≤ min m 4 ∧ min m 4 ≤ ((4 : Nat) : Int) from by omega) ?_; conv => whnf)
    | (refine br_intro (fun hb => ?_) (fun hb => ?_) <;> (try simp only [decide_eq_true_eq, decide_eq_false_iff_not, Bool.not_eq_true', Bool.not_eq_false', Bool.and_eq_true, Bool.or_eq_true, beq_iff_eq, not_and, Int.not_le, Int.not_lt, Int.toNat_natCast, beq_eq_false_iff_ne, ne_eq, eq_self, not_true_eq_false, not_false_eq_true] at hb) <;> (conv => whnf))
    | omega
    | (refine And.intro ?_ ?_; ((try dsimp only); first | omega | (refine ⟨by omega, by omega, Int.le_trans (Int.mul_le_mul_of_nonneg_right (Int.ofNat_le.2 (Nat.le_of_ble_eq_true (rfl : Nat.ble _ 1024 = true))) (by omega)) (by omega), by omega⟩) | (refine Nat.le_trans (Nat.mul_le_mul_left _ (Nat.le_of_ble_eq_true (rfl : Nat.ble _ 1024 = true))) ?_; omega) | (unfold inI64; omega) | (constructor <;> omega) | (simp only [inI64, List.length_cons, List.length_append, List.length_nil, List.length_set] at *; omega) | decide | (unfold inI64; decide)); conv => whnf)
    | omega | decide | assumption)
  refine LoopX.rule hT (C := []) (ι := Int × List Hir × Nat) (fun (b, l, i) => (a ≤ b ∧ b ≤ a + 500 * i ∧ (i : Int) ≤ m) ∧ allK (hiB 3) i l)
    (fun (b, l, i) => mkSt [(0, .ptr 1000000 0), (5, .buf 5), (11, .d (strs (k4.take m.toNat))), (12, .d (.int .i64 m)), (13, .d (.int .i64 i))] [(1000000, strm n L b), (5, seqB 179 5 hiF hi0 l)])
    (fun (_, _, i) => (m - i).toNat) (a, [], 0) ⟨⟨by simp, by simp, by simpa using hm0⟩, ⟨by simp, by simp⟩⟩ ?_ ?_
  · refine (Entails.nil 5 5 179 5 (rowF hiF hi0 []) rfl rfl (by decide)).trans (Entails.mk' [(1000000, 1000000), (5, 5)] rfl rfl ⟨SV.le_refl _, SV.le_refl _, ?_, SV.le_int (by first | omega | (show (((min m 4 - 0).toNat : Nat) : Int) = m; omega) | (show ((min m 4).toNat : Int) = m; omega)), SV.le_refl _, trivial⟩ ⟨Res.le_refl _, Res.le_refl _, trivial⟩)
    have h4 : (k4.take m.toNat).length = m.toNat := by rw [List.length_take]; show min m.toNat 4 = _; omega
    have hm4 : (min m 4 - 0).toNat = m.toNat := by omega
    refine SV.le_ro (by rw [h4]; first | exact hm4 | omega) (fun i hi => ?_)
    have hi : i < m.toNat := by first | omega | (rw [← hm4]; exact hi)
    have hk : rowF sF [] (k4.take m.toNat) i = rowF sF [] k4 i := by
      simp only [rowF]
      rw [List.getD_eq_getElem?_getD, List.getElem?_take_of_lt hi, ← List.getD_eq_getElem?_getD]
    rw [hk]
    have : i = 0 ∨ i = 1 ∨ i = 2 ∨ i = 3 := by omega
    rcases this with rfl | rfl | rfl | rfl <;> rfl
  rintro ⟨b, l, i⟩ ⟨⟨p1, p2, p3⟩, p4⟩
  have p1 : a ≤ b := p1
  have p2 : b ≤ a + 500 * i := p2
  have p3 : (i : Int) ≤ m := p3
  have p4 : allK (hiB 3) i l := p4
  have hl1 := p4.1
  have h4 : (k4.take m.toNat).length = m.toNat := by rw [List.length_take]; show min m.toNat 4 = _; omega
  have hkl : ((k4.take m.toNat).getD (i : Int).toNat []).length ≤ 8 := by
    by_cases q : (i : Int).toNat < (k4.take m.toNat).length
    · have := List.mem_of_mem_take (getD_mem (x := []) q)
      exact mem_len this rfl
    · rw [List.getD_eq_getElem?_getD, List.getElem?_eq_none (by omega)]; simp
  conv => whnf
  repeat' (first
    | (refine CallX.of (s33 n L hL _ ?_ ?_ [0, 50, 100, 100, 300, 1000] ?_ ?_) [(1000000, 1000000)] rfl ⟨SV.le_refl _, SV.le_lit rfl rfl, trivial⟩ ⟨Res.le_refl _, trivial⟩ rfl rfl ?_; rotate_right; rintro x rout ⟨⟨u1, hu1, rfl⟩, ⟨c, c1, c2, rfl⟩⟩; have hw1 := pkD hu1 (by decide); refine ⟨rfl, ?_⟩; conv => whnf)
    | (refine CallX.of (sRh n L hL _ ?_ ?_ ((k4.take m.toNat).getD (i : Int).toNat []) hkl u1 hw1.1 ?_) [(1000000, 1000000)] rfl ⟨SV.le_refl _, SV.le_refl _, SV.le_refl _, trivial⟩ ⟨Res.le_refl _, trivial⟩ rfl rfl ?_; rotate_right; rintro x rout ⟨⟨h, hh, hhl, rfl⟩, ⟨c, c1, c2, rfl⟩⟩; refine ⟨rfl, ?_⟩; conv => whnf)
    | (refine br_intro (fun hb => ?_) (fun hb => ?_) <;> (try simp only [decide_eq_true_eq, decide_eq_false_iff_not, Bool.not_eq_true', Bool.not_eq_false', Bool.and_eq_true, Bool.or_eq_true, beq_iff_eq, not_and, Int.not_le, Int.not_lt, Int.toNat_natCast, beq_eq_false_iff_ne, ne_eq, eq_self, not_true_eq_false, not_false_eq_true] at hb) <;> (conv => whnf))
    | omega
    | (refine And.intro ?_ ?_; ((try dsimp only); first | omega | (refine ⟨by omega, by omega, Int.le_trans (Int.mul_le_mul_of_nonneg_right (Int.ofNat_le.2 (Nat.le_of_ble_eq_true (rfl : Nat.ble _ 1024 = true))) (by omega)) (by omega), by omega⟩) | (refine Nat.le_trans (Nat.mul_le_mul_left _ (Nat.le_of_ble_eq_true (rfl : Nat.ble _ 1024 = true))) ?_; omega) | (unfold inI64; omega) | (constructor <;> omega) | (simp only [inI64, List.length_cons, List.length_append, List.length_nil, List.length_set] at *; omega) | decide | (unfold inI64; decide)); conv => whnf)
    | omega | decide | assumption)
  · refine ⟨(_, l ++ [h], i + 1), ⟨⟨by omega, ?_, by omega⟩, allK_snoc p4 (by omega) hh⟩, (show (m - ((i + 1 : Nat) : Int)).toNat < (m - (i : Int)).toNat by omega), Entails.mk' [(1000000, 1000000), (5, 25)] rfl rfl ⟨SV.le_refl _, SV.le_refl _, SV.le_refl _, SV.le_refl _, SV.le_refl _, trivial⟩ ⟨Res.le_refl _, Res.le_snocF rfl, trivial⟩⟩
    show _ ≤ a + 500 * ((i + 1 : Nat) : Int)
    omega
  repeat' (first
    | (refine CallX.of (s84 n L hL _ ?_ ?_ _ ?_) [(1000000, 1000000)] rfl ⟨SV.le_refl _, SV.le_refl _, trivial⟩ ⟨Res.le_refl _, trivial⟩ rfl rfl ?_; rotate_right; rintro x rout ⟨⟨w, rfl⟩, ⟨c, c1, c2, rfl⟩⟩; refine ⟨rfl, ?_⟩; conv => whnf)
    | (refine CallX.of (sHir n L hL _ ?_ ?_) [(1000000, 1000000)] rfl ⟨SV.le_refl _, trivial⟩ ⟨Res.le_refl _, trivial⟩ rfl rfl ?_; rotate_right; rintro x rout ⟨⟨h, hh, rfl⟩, ⟨c, c1, c2, rfl⟩⟩; refine ⟨rfl, ?_⟩; conv => whnf)
    | (refine br_intro (fun hb => ?_) (fun hb => ?_) <;> (try simp only [decide_eq_true_eq, decide_eq_false_iff_not, Bool.not_eq_true', Bool.not_eq_false', Bool.and_eq_true, Bool.or_eq_true, beq_iff_eq, not_and, Int.not_le, Int.not_lt, Int.toNat_natCast, beq_eq_false_iff_ne, ne_eq, eq_self, not_true_eq_false, not_false_eq_true] at hb) <;> (conv => whnf))
    | omega
    | (refine And.intro ?_ ?_; ((try dsimp only); first | omega | (refine ⟨by omega, by omega, Int.le_trans (Int.mul_le_mul_of_nonneg_right (Int.ofNat_le.2 (Nat.le_of_ble_eq_true (rfl : Nat.ble _ 1024 = true))) (by omega)) (by omega), by omega⟩) | (refine Nat.le_trans (Nat.mul_le_mul_left _ (Nat.le_of_ble_eq_true (rfl : Nat.ble _ 1024 = true))) ?_; omega) | (unfold inI64; omega) | (constructor <;> omega) | (simp only [inI64, List.length_cons, List.length_append, List.length_nil, List.length_set] at *; omega) | decide | (unfold inI64; decide)); conv => whnf)
    | omega | decide | assumption)
  · refine .freeze _ 33 179 5 _ _ rfl (.weak _ ?_)
    conv => whnf
    exact ⟨_, [(1000000, strm n L _)], SV.le_snocF rfl, ⟨⟨l ++ [h], allK_snoc (allK_le p4 (by omega : i ≤ 4)) (by omega) hh, rfl⟩, _, by omega, by omega, rfl⟩, Res.le_refl _, trivial⟩
  · refine .freeze _ 5 179 5 _ _ rfl (.weak _ ?_)
    conv => whnf
    exact ⟨_, [(1000000, strm n L _)], SV.le_refl _, ⟨⟨l, allK_le p4 (by omega), rfl⟩, _, by omega, by omega, rfl⟩, Res.le_refl _, trivial⟩
end Go.Proofs.YtnkdlkgannnfhaaGreatDoor
set_option maxRecDepth 20000
namespace Go.Proofs.YtnkdlkgannnfhaaGreatDoor
open Go Go.Eng
structure Ntr where
  name : Int
  pay : Int
  step : Int
  late : Int
def ntrF : Ntr → List DV := fun r => [.int .i64 r.name, .int .i64 r.pay, .int .i64 r.step, .int .i64 r.late]
structure Ntc where
  key : List UInt8
  plate : List UInt8
  tm : Int
  came : Int
  cents : Int
def ntcF : Ntc → List DV := fun n => [.str n.key, .str n.plate, .int .i64 n.tm, .int .i64 n.came, .int .i64 n.cents]
def ntc0 : Ntc := ⟨[], [], 0, 0, 0⟩
abbrev ntcs (l : List Ntc) : DV := seqD 5 ntcF ntc0 l
def ntrE (r : Ntr) : Int := if (0 ≤ r.name ∧ r.name ≤ 4000) ∧ (0 ≤ r.pay ∧ r.pay ≤ 4000) ∧ (1 ≤ r.step ∧ r.step ≤ 4000) ∧ (0 ≤ r.late ∧ r.late ≤ 1000000) then 0 else 1
def ntcE (l : List Ntc) (i : Nat) : Int :=
  if isKeyB (l.getD i ntc0).key = false then 5 else if 0 < i ∧ strLe (l.getD i ntc0).key (l.getD (i - 1) ntc0).key = true then 7 else if isPlateB (l.getD i ntc0).plate = false then 3
  else if ¬ ((0 ≤ (l.getD i ntc0).tm ∧ (l.getD i ntc0).tm ≤ (l.getD i ntc0).came) ∧ (0 ≤ (l.getD i ntc0).came ∧ (l.getD i ntc0).came ≤ 5761439) ∧ (0 ≤ (l.getD i ntc0).cents ∧ (l.getD i ntc0).cents ≤ 1000000)) then 1 else 0
def ntcsE (l : List Ntc) : Int := if 200 < l.length then 2 else firstAt (ntcE l) l.length
def ntK (n : Ntc) : Prop := n.key.length ≤ 2^40 ∧ n.plate.length ≤ 2^40
def ntOk (l : List Ntc) : Prop := l.length ≤ 2^40 ∧ ∀ x ∈ l, ntK x
-- toll.CheckNoticeRules
theorem sNtRules (r : Ntr) : FSpec Tryz.prog 218 [.agg ((ntrF r).map .d)] [] (fun x o => x = .d (.int .i64 (ntrE r)) ∧ o = []) := by
  refine spec_of hT (C := []) Tryz.func218 rfl Tryz.call218 rfl rfl rfl ?_
  conv => whnf
  repeat' (first
    | (refine CallX.exact (s119 _ _ _) rfl rfl ?_; rotate_right; conv => whnf)
    | (refine CallX.exact (s107 _ _) rfl rfl ?_; rotate_right; conv => whnf)
    | (refine br_intro (fun hb => ?_) (fun hb => ?_) <;> (try simp only [decide_eq_true_eq, decide_eq_false_iff_not, Bool.not_eq_true', Bool.not_eq_false', Bool.and_eq_true, Bool.or_eq_true, beq_iff_eq, not_and, Int.not_le, Int.not_lt, Int.toNat_natCast, beq_eq_false_iff_ne, ne_eq, eq_self, not_true_eq_false, not_false_eq_true] at hb) <;> (conv => whnf))
    | omega
    | (refine And.intro ?_ ?_; ((try dsimp only); first | omega | (refine ⟨by omega, by omega, Int.le_trans (Int.mul_le_mul_of_nonneg_right (Int.ofNat_le.2 (Nat.le_of_ble_eq_true (rfl : Nat.ble _ 1024 = true))) (by omega)) (by omega), by omega⟩) | (refine Nat.le_trans (Nat.mul_le_mul_left _ (Nat.le_of_ble_eq_true (rfl : Nat.ble _ 1024 = true))) ?_; omega) | (unfold inI64; omega) | (constructor <;> omega) | (simp only [inI64, List.length_cons, List.length_append, List.length_nil, List.length_set] at *; omega) | decide | (unfold inI64; decide)); conv => whnf)
    | omega | decide | assumption)
  all_goals
    refine .ret _ ?_
    conv => whnf
    refine ⟨[], ⟨?_, rfl⟩, trivial⟩
    conv => lhs; whnf
    congr 2
    unfold ntrE; grind
-- word.Moment
theorem sMoment (n : Int) : FSpec Tryz.prog 220 [.d (.int .i64 n)] [] (fun x o => x = .d (.int .i64 (if 0 ≤ n ∧ n ≤ 5761439 then 0 else 1)) ∧ o = []) := by
  refine spec_of hT (C := []) Tryz.func220 rfl Tryz.call220 rfl rfl rfl ?_
  conv => whnf
  repeat' (first
    | (refine CallX.exact (s154 _) rfl rfl ?_; rotate_right; conv => whnf)
    | (refine CallX.exact (s107 _ _) rfl rfl ?_; rotate_right; conv => whnf)
    | (refine br_intro (fun hb => ?_) (fun hb => ?_) <;> (try simp only [decide_eq_true_eq, decide_eq_false_iff_not, Bool.not_eq_true', Bool.not_eq_false', Bool.and_eq_true, Bool.or_eq_true, beq_iff_eq, not_and, Int.not_le, Int.not_lt, Int.toNat_natCast, beq_eq_false_iff_ne, ne_eq, eq_self, not_true_eq_false, not_false_eq_true] at hb) <;> (conv => whnf))
    | omega
    | (refine And.intro ?_ ?_; ((try dsimp only); first | omega | (refine ⟨by omega, by omega, Int.le_trans (Int.mul_le_mul_of_nonneg_right (Int.ofNat_le.2 (Nat.le_of_ble_eq_true (rfl : Nat.ble _ 1024 = true))) (by omega)) (by omega), by omega⟩) | (refine Nat.le_trans (Nat.mul_le_mul_left _ (Nat.le_of_ble_eq_true (rfl : Nat.ble _ 1024 = true))) ?_; omega) | (unfold inI64; omega) | (constructor <;> omega) | (simp only [inI64, List.length_cons, List.length_append, List.length_nil, List.length_set] at *; omega) | decide | (unfold inI64; decide)); conv => whnf)
    | omega | decide | assumption)
  refine .ret _ ?_
  conv => whnf
  refine ⟨[], ⟨?_, rfl⟩, trivial⟩
  conv => lhs; whnf
  congr 2
  grind
-- toll.CheckNotices
theorem sNotices (l : List Ntc) (hk : ntOk l) : FSpec Tryz.prog 219 [.d (ntcs l)] [] (fun x r => x = .d (.int .i64 (ntcsE l)) ∧ r = []) := by
  refine spec_of hT (C := []) Tryz.func219 rfl Tryz.call219 rfl rfl rfl ?_
  conv => whnf
  refine br_intro (fun h0 => ?_) (fun h0 => ?_)
  · simp at h0
    conv => whnf
    refine .ret _ ?_
    conv => whnf
    refine ⟨[], ⟨?_, rfl⟩, trivial⟩
    conv => lhs; whnf
    unfold ntcsE; rw [if_pos (by omega)]
  simp at h0
  conv => whnf
  refine LoopX.rule hT (C := []) (ι := Nat) (fun i => i ≤ l.length ∧ ∀ j, j < i → ntcE l j = 0) (fun i => mkSt [(0, .d (ntcs l)), (8, .d (ntcs l)), (9, .d (.int .i64 l.length)), (10, .d (.int .i64 i))] []) (fun i => l.length - i) 0 ⟨by omega, by omega⟩ (by refine Entails.mk' [] rfl rfl ?_ ?_ <;> repeat' (first | exact True.intro | exact SV.le_refl _ | exact Res.le_refl _ | exact SV.le_int (by omega) | exact SV.le_any _ | refine And.intro ?_ ?_)) ?_
  rintro i ⟨p1, p2⟩
  have hx : (i : Int) < l.length → ntK (l.getD (i : Int).toNat ntc0) := fun hi => hk.2 _ (getD_mem (by omega))
  have e1 : (i : Int).toNat = i := Int.toNat_natCast i
  have hbad : ∀ e : Int, i < l.length → e ≠ 0 → ntcE l i = e → ntcsE l = e := fun e h h1 h2 => by
    unfold ntcsE; rw [if_neg (by omega)]
    exact firstAt_eq h p2 h1 h2
  conv => whnf
  repeat' (first
    | (refine CallX.exact (s108 _ (hx (by omega)).1) rfl rfl ?_; rotate_right; conv => whnf)
    | (refine CallX.exact (s185 _ (hx (by omega)).2) rfl rfl ?_; rotate_right; conv => whnf)
    | (refine CallX.exact (s119 _ _ _) rfl rfl ?_; rotate_right; conv => whnf)
    | (refine CallX.exact (s154 _) rfl rfl ?_; rotate_right; conv => whnf)
    | (refine br_intro (fun hb => ?_) (fun hb => ?_) <;> (try simp only [decide_eq_true_eq, decide_eq_false_iff_not, Bool.not_eq_true', Bool.not_eq_false', Bool.and_eq_true, Bool.or_eq_true, beq_iff_eq, not_and, Int.not_le, Int.not_lt, Int.toNat_natCast, beq_eq_false_iff_ne, ne_eq, eq_self, not_true_eq_false, not_false_eq_true] at hb) <;> (conv => whnf))
    | (refine RegX.rule (id := 8) hT rfl [] [(0, []), (1, []), (2, []), (3, []), (4, []), (5, [3, 4]), (6, [3, 4, 5]), (7, [3, 4, 5]), (8, [3, 4]), (9, [3, 4]), (10, [3, 4]), (11, []), (12, []), (13, [])] (by decide +kernel) ?_; conv => whnf)
    | omega
    | (refine And.intro ?_ ?_; ((try dsimp only); first | omega | (refine ⟨by omega, by omega, Int.le_trans (Int.mul_le_mul_of_nonneg_right (Int.ofNat_le.2 (Nat.le_of_ble_eq_true (rfl : Nat.ble _ 1024 = true))) (by omega)) (by omega), by omega⟩) | (refine Nat.le_trans (Nat.mul_le_mul_left _ (Nat.le_of_ble_eq_true (rfl : Nat.ble _ 1024 = true))) ?_; omega) | (unfold inI64; omega) | (constructor <;> omega) | (simp only [inI64, List.length_cons, List.length_append, List.length_nil, List.length_set] at *; omega) | decide | (unfold inI64; decide)); conv => whnf)
    | omega | decide | assumption)
  all_goals first
    | (refine ⟨i + 1, ⟨by omega, first_step p2 (by clear p2 hbad hk hx; simp only [e1, toNat_pred] at *; unfold ntcE strLe; grind)⟩, by omega, (by refine Entails.mk' [] rfl rfl ?_ ?_ <;> repeat' (first | exact True.intro | exact SV.le_refl _ | exact Res.le_refl _ | exact SV.le_int (by omega) | exact SV.le_any _ | refine And.intro ?_ ?_))⟩)
    | (refine .ret _ ?_
       conv => whnf
       refine ⟨[], ⟨?_, rfl⟩, trivial⟩
       conv => lhs; whnf
       congr 2
       first
         | exact (hbad _ (by omega) (by decide) (by clear p2 hbad hk hx; simp only [e1, toNat_pred] at *; unfold ntcE strLe; grind)).symm
         | (have : i = l.length := by omega
            subst this
            unfold ntcsE; rw [if_neg (by omega), firstAt_zero p2]))
def dueE (r : Ntr) (n : Ntc) (t : Int) : Int := firstE [ntrE r, ntcsE [n], if 0 ≤ t ∧ t ≤ 5761439 then 0 else 1, if t < n.came then 11 else 0]
def dueO (r : Ntr) (n : Ntc) (t : Int) : Int := (max 0 (t.tdiv 1440 - n.came.tdiv 1440 - r.pay) + r.step - 1).tdiv r.step
def dueV (r : Ntr) (n : Ntc) (t : Int) : Int := n.cents + dueO r n t * r.late
theorem ntc_one {n : Ntc} (h : ntcsE [n] = 0) : isKeyB n.key = true ∧ isPlateB n.plate = true ∧ (0 ≤ n.tm ∧ n.tm ≤ n.came) ∧ (0 ≤ n.came ∧ n.came ≤ 5761439) ∧ (0 ≤ n.cents ∧ n.cents ≤ 1000000) := by
  have h : ntcE [n] 0 = 0 := by simpa [ntcsE, firstAt] using h
  unfold ntcE at h
  simp only [List.getD_cons_zero] at h
  grind
theorem ntr_zero {r : Ntr} (h : ntrE r = 0) : (0 ≤ r.name ∧ r.name ≤ 4000) ∧ (0 ≤ r.pay ∧ r.pay ≤ 4000) ∧ (1 ≤ r.step ∧ r.step ≤ 4000) ∧ (0 ≤ r.late ∧ r.late ≤ 1000000) := by unfold ntrE at h; grind
theorem dueE_zero {r : Ntr} {n : Ntc} {t : Int} (h : dueE r n t = 0) : ntrE r = 0 ∧ ntcsE [n] = 0 ∧ (0 ≤ t ∧ t ≤ 5761439) ∧ n.came ≤ t := by
  unfold dueE at h
  simp only [firstE] at h
  grind
theorem mul_bd {a b A B : Int} (h0 : 0 ≤ a) (h1 : a ≤ A) (h2 : 0 ≤ b) (h3 : b ≤ B) : 0 ≤ a * b ∧ a * b ≤ A * B :=
  ⟨Int.mul_nonneg h0 h2, Int.mul_le_mul h1 h3 h2 (by omega)⟩
theorem tdiv_bd {a b : Int} (h0 : 0 ≤ a) (h1 : 1 ≤ b) : 0 ≤ a.tdiv b ∧ a.tdiv b ≤ a := by
  refine ⟨Int.tdiv_nonneg h0 (by omega), ?_⟩
  have h4 := Int.tmod_add_mul_tdiv a b
  have h2 : 0 ≤ a.tmod b := Int.tmod_nonneg _ h0
  have h5 : a.tdiv b * 1 ≤ a.tdiv b * b := Int.mul_le_mul_of_nonneg_left h1 (Int.tdiv_nonneg h0 (by omega))
  rw [Int.mul_comm] at h4
  omega
theorem dueO_bd {r : Ntr} {n : Ntc} {t : Int} (h1 : ntrE r = 0) (hc : 0 ≤ n.came) (ht : n.came ≤ t) (ht2 : t ≤ 5761439) : 0 ≤ dueO r n t ∧ dueO r n t ≤ 10000 := by
  obtain ⟨_, h2, h3, _⟩ := ntr_zero h1
  unfold dueO
  have a1 := tdiv_bd (a := t) (b := 1440) (by omega) (by omega)
  have a2 := tdiv_bd (a := n.came) (b := 1440) (by omega) (by omega)
  have h4 := Int.tmod_add_mul_tdiv t 1440
  have h5 : 0 ≤ t.tmod 1440 := Int.tmod_nonneg _ (by omega)
  obtain ⟨q, hq⟩ : ∃ q, q = max 0 (t.tdiv 1440 - n.came.tdiv 1440 - r.pay) + r.step - 1 := ⟨_, rfl⟩
  have hq0 : 0 ≤ q ∧ q ≤ 10000 := by omega
  rw [← hq]
  have := tdiv_bd hq0.1 h3.1
  omega
def dueW (r : Ntr) (n : Ntc) (t : Int) : SV := if dueE r n t = 0 then .tup [.d (.int .i64 (dueV r n t)), .d (.int .i64 0)] else .tup [.d (.int .i64 0), .d (.int .i64 (dueE r n t))]
theorem ntOk_one {n : Ntc} (h : ntK n) : ntOk [n] := ⟨by simp, fun x hx => by rw [List.mem_singleton] at hx; rw [hx]; exact h⟩
-- toll.Due
theorem sDue (r : Ntr) (n : Ntc) (t : Int) (hn : ntK n) : FSpec Tryz.prog 132 [.agg ((ntrF r).map .d), .agg ((ntcF n).map .d), .d (.int .i64 t)] [] (fun x o => x = dueW r n t ∧ o = []) := by
  have h105 := s105 [ntrE r, ntcsE [n], if 0 ≤ t ∧ t ≤ 5761439 then 0 else 1, if decide (t < n.came) = true then 11 else 0] (by simp)
  have hE : firstE [ntrE r, ntcsE [n], if 0 ≤ t ∧ t ≤ 5761439 then 0 else 1, if decide (t < n.came) = true then 11 else 0] = dueE r n t := by
    unfold dueE; simp only [decide_eq_true_eq]
  rw [hE] at h105
  unfold dueW
  by_cases hz : dueE r n t = 0
  · rw [if_pos hz]
    rw [hz] at h105
    obtain ⟨h1, h2, h3, h4⟩ := dueE_zero hz
    obtain ⟨_, _, _, h5, h6⟩ := ntc_one h2
    obtain ⟨_, h7, h8, h9⟩ := ntr_zero h1
    have hO := dueO_bd h1 h5.1 h4 h3.2
    have hM := mul_bd hO.1 hO.2 h9.1 h9.2
    have a1 := tdiv_bd (a := t) (b := 1440) (by omega) (by omega)
    have a2 := tdiv_bd (a := n.came) (b := 1440) (by omega) (by omega)
    have hM1 : inI64 (dueO r n t * r.late) := by unfold inI64; omega
    have hM2 : inI64 (dueV r n t) := by unfold dueV inI64; omega
    have hq : inI64 (max 0 (t.tdiv 1440 - n.came.tdiv 1440 - r.pay) + r.step) := by unfold inI64; omega
    have hq2 : inI64 (max 0 (t.tdiv 1440 - n.came.tdiv 1440 - r.pay) + r.step - 1) := by unfold inI64; omega
    have hq3 : inI64 (dueO r n t) := by unfold inI64; omega
    refine spec_of hT (C := []) Tryz.func132 rfl Tryz.call132 rfl rfl rfl ?_
    conv => whnf
    repeat' (first
      | (refine CallX.exact (sNtRules r) rfl rfl ?_; rotate_right; conv => whnf)
      | (refine CallX.pure (sNotices [n] (ntOk_one hn)) ⟨SV.le_lit (by rfl) (by rfl), trivial⟩ rfl ?_; conv => whnf)
      | (refine CallX.exact (sMoment t) rfl rfl ?_; rotate_right; conv => whnf)
      | (refine CallX.exact (s107 _ _) rfl rfl ?_; rotate_right; conv => whnf)
      | (refine CallX.pure h105 ⟨SV.le_lit (by rfl) (by rfl), trivial⟩ rfl ?_; conv => whnf)
      | (refine And.intro hq ?_; conv => whnf)
      | (refine And.intro hq2 ?_; conv => whnf)
      | (refine And.intro hq3 ?_; conv => whnf)
      | (refine And.intro hM1 ?_; conv => whnf)
      | (refine And.intro hM2 ?_; conv => whnf)
      | (refine br_intro (fun hb => ?_) (fun hb => ?_) <;> (try simp only [decide_eq_true_eq, decide_eq_false_iff_not, Bool.not_eq_true', Bool.not_eq_false', Bool.and_eq_true, Bool.or_eq_true, beq_iff_eq, not_and, Int.not_le, Int.not_lt, Int.toNat_natCast, beq_eq_false_iff_ne, ne_eq, eq_self, not_true_eq_false, not_false_eq_true] at hb) <;> (conv => whnf))
      | (refine RegX.rule (id := 1) hT rfl [] [(0, []), (2, [0]), (3, [0]), (5, [0, 2, 3]), (7, [0, 2, 3, 5]), (8, [0, 2, 3, 5, 7]), (9, [0, 2, 3, 5, 7]), (10, [0, 2, 3, 5]), (1, [2, 3, 5, 7, 8, 9, 10]), (4, [5, 7, 8, 9, 10]), (6, [7, 8, 9, 10]), (11, []), (12, []), (13, []), (14, [])] (by decide +kernel) ?_; conv => whnf)
      | (refine RegX.rule (id := 5) hT rfl [] [(0, []), (1, []), (2, [0, 1]), (3, [0, 1, 2]), (4, [0, 1, 2]), (5, [0, 1]), (6, [0, 1]), (7, [0, 1, 2, 3, 4, 5, 6]), (8, [0, 1, 2, 3, 4, 5, 6]), (9, [0, 1]), (10, [0, 1, 2, 3, 4, 5, 6, 7, 8, 9]), (11, [0, 1, 2, 3, 4, 5, 6, 7, 8, 9]), (12, [0, 1]), (13, []), (14, []), (15, [])] (by decide +kernel) ?_; conv => whnf)
      | omega
      | (refine And.intro ?_ ?_; ((try dsimp only); first | omega | (refine ⟨by omega, by omega, Int.le_trans (Int.mul_le_mul_of_nonneg_right (Int.ofNat_le.2 (Nat.le_of_ble_eq_true (rfl : Nat.ble _ 1024 = true))) (by omega)) (by omega), by omega⟩) | (refine Nat.le_trans (Nat.mul_le_mul_left _ (Nat.le_of_ble_eq_true (rfl : Nat.ble _ 1024 = true))) ?_; omega) | (unfold inI64; omega) | (constructor <;> omega) | (simp only [inI64, List.length_cons, List.length_append, List.length_nil, List.length_set] at *; omega) | decide | (unfold inI64; decide)); conv => whnf)
      | omega | decide | assumption)
    refine .ret _ ?_
    conv => whnf
    refine ⟨[], ⟨congrArg SV.tup ?_, rfl⟩, trivial⟩
    repeat' (refine cons_eq ?_ ?_)
    all_goals (conv => lhs; whnf)
    all_goals try (with_reducible rfl)
    all_goals rfl
  · rw [if_neg hz]
    generalize dueE r n t = e at h105 hz
    refine spec_of hT (C := []) Tryz.func132 rfl Tryz.call132 rfl rfl rfl ?_
    conv => whnf
    repeat' (first
      | (refine CallX.exact (sNtRules r) rfl rfl ?_; rotate_right; conv => whnf)
      | (refine CallX.pure (sNotices [n] (ntOk_one hn)) ⟨SV.le_lit (by rfl) (by rfl), trivial⟩ rfl ?_; conv => whnf)
      | (refine CallX.exact (sMoment t) rfl rfl ?_; rotate_right; conv => whnf)
      | (refine CallX.exact (s107 _ _) rfl rfl ?_; rotate_right; conv => whnf)
      | (refine CallX.pure h105 ⟨SV.le_lit (by rfl) (by rfl), trivial⟩ rfl ?_; conv => whnf)
      | (refine br_intro (fun hb => ?_) (fun hb => ?_) <;> (try simp only [decide_eq_true_eq, decide_eq_false_iff_not, Bool.not_eq_true', Bool.not_eq_false', Bool.and_eq_true, Bool.or_eq_true, beq_iff_eq, not_and, Int.not_le, Int.not_lt, Int.toNat_natCast, beq_eq_false_iff_ne, ne_eq, eq_self, not_true_eq_false, not_false_eq_true] at hb) <;> (conv => whnf))
      | (refine RegX.rule (id := 1) hT rfl [] [(0, []), (2, [0]), (3, [0]), (5, [0, 2, 3]), (7, [0, 2, 3, 5]), (8, [0, 2, 3, 5, 7]), (9, [0, 2, 3, 5, 7]), (10, [0, 2, 3, 5]), (1, [2, 3, 5, 7, 8, 9, 10]), (4, [5, 7, 8, 9, 10]), (6, [7, 8, 9, 10]), (11, []), (12, []), (13, []), (14, [])] (by decide +kernel) ?_; conv => whnf)
      | (refine RegX.rule (id := 5) hT rfl [] [(0, []), (1, []), (2, [0, 1]), (3, [0, 1, 2]), (4, [0, 1, 2]), (5, [0, 1]), (6, [0, 1]), (7, [0, 1, 2, 3, 4, 5, 6]), (8, [0, 1, 2, 3, 4, 5, 6]), (9, [0, 1]), (10, [0, 1, 2, 3, 4, 5, 6, 7, 8, 9]), (11, [0, 1, 2, 3, 4, 5, 6, 7, 8, 9]), (12, [0, 1]), (13, []), (14, []), (15, [])] (by decide +kernel) ?_; conv => whnf)
      | omega
      | (refine And.intro ?_ ?_; ((try dsimp only); first | omega | (refine ⟨by omega, by omega, Int.le_trans (Int.mul_le_mul_of_nonneg_right (Int.ofNat_le.2 (Nat.le_of_ble_eq_true (rfl : Nat.ble _ 1024 = true))) (by omega)) (by omega), by omega⟩) | (refine Nat.le_trans (Nat.mul_le_mul_left _ (Nat.le_of_ble_eq_true (rfl : Nat.ble _ 1024 = true))) ?_; omega) | (unfold inI64; omega) | (constructor <;> omega) | (simp only [inI64, List.length_cons, List.length_append, List.length_nil, List.length_set] at *; omega) | decide | (unfold inI64; decide)); conv => whnf)
      | omega | decide | assumption)
    refine .ret _ ?_
    conv => whnf
    refine ⟨[], ⟨congrArg SV.tup ?_, rfl⟩, trivial⟩
    repeat' (refine cons_eq ?_ ?_)
    all_goals (conv => lhs; whnf)
    all_goals try (with_reducible rfl)
    all_goals rfl
-- NoticeRules
end Go.Proofs.YtnkdlkgannnfhaaGreatDoor
namespace Go.Proofs
open Go.Shelf
def Tryz.laysGrowE_ren : Go.Shelf.Ren := ⟨fun | 4 => 271 | n => n, fun | 22 => 194 | 25 => 198 | 3 => 3 | 4 => 4 | 9 => 9 | 20 => 20 | 0 => 0 | n => n, fun | n => n⟩
theorem Tryz.laysGrowE : Go.Proofs.Lays8.n4 Tryz.prog Tryz.laysGrowE_ren := {
  mixed := by kernel_rfl
  f4 := ⟨Tryz.f271.name, by decide, Tryz.func271.trans (congrArg some (by kernel_rfl))⟩
  t0 := Tryz.underlying0
  a0 := Tryz.isAgg0
  z0 := Tryz.sizeOf0
  v0 := Tryz.zeroValue0
  t3 := Tryz.underlying3
  a3 := Tryz.isAgg3
  z3 := Tryz.sizeOf3
  v3 := Tryz.zeroValue3
  t4 := Tryz.underlying4
  a4 := Tryz.isAgg4
  z4 := Tryz.sizeOf4
  v4 := Tryz.zeroValue4
  t9 := Tryz.underlying9
  a9 := Tryz.isAgg9
  z9 := Tryz.sizeOf9
  v9 := Tryz.zeroValue9
  t20 := Tryz.underlying20
  a20 := Tryz.isAgg20
  z20 := Tryz.sizeOf20
  v20 := Tryz.zeroValue20
  t22 := Tryz.underlying194
  a22 := Tryz.isAgg194
  z22 := Tryz.sizeOf194
  v22 := Tryz.zeroValue194 }
end Go.Proofs

set_option maxRecDepth 20000
namespace Go.Proofs.YtnkdlkgannnfhaaGreatDoor
open Go Go.Eng Go.RowKit
structure Ent where
  tm : Int
  desk : List UInt8
  no : Int
  words : List UInt8
def enF : Ent → List DV := fun x => [.int .i64 x.tm, .str x.desk, .int .i64 x.no, .str x.words]
def en0 : Ent := ⟨0, [], 0, []⟩
abbrev ents (l : List Ent) : DV := seqD 4 enF en0 l
-- slices.Grow of entries, from nil
theorem sGrowE (n : Nat) (hn : n ≤ 2^20) : FSpec Tryz.prog 271 [.d .nilsl, .d (.int .i64 n)] [] (fun y r => y = .buf 1000001 ∧ r = [(1000001, .buf 198 4 0 fun _ => [])]) := by
  refine FSpec.ofRow (by decide) Tryz.call271 (fun G β w vs _ hl hd => ?_)
  match vs, hl with
  | [u, v], _ =>
    have hu := hd 0 _ _ rfl rfl
    have hv := hd 1 _ _ rfl rfl
    cases hu with | d _ _ hu => cases hu with | nilsl =>
    cases hv with | d _ _ hv => cases hv with | int _ _ =>
    by_cases h0 : n = 0
    · subst h0
      refine (Go.Proofs.Any8.slices_Grow_room Go.Proofs.Tryz.laysGrowE none 0 0 0 w (by decide) (by decide) (by decide) (by decide)).mono ?_
      rintro e w' ⟨rfl, rfl⟩
      exact ⟨Below.refl _ _, _, rfl, .inl rfl⟩
    · obtain ⟨_, inf, hi, hsz, hby, hz⟩ := hT.get (t := 198) (i := (T 198).get rfl) rfl
      have hg1 := grownCap_ge w (0 + n) 0 198
      have hg2 := grownCap_le_maxLen w (0 + n) 0 198 (by simp only [maxLen]; omega)
      refine (Go.Proofs.Any8.slices_Grow_grow Go.Proofs.Tryz.laysGrowE inf _ hi hz (by rw [hsz]; decide) none 0 0 n [] w (Nat.le_refl _) (by omega) (by rw [hby]; show (0 + n) * 48 ≤ _; omega) (by omega) (by simp) (fun _ => rfl) (fun a h => by cases h)).mono ?_
      rintro e w' ⟨rfl, rfl⟩
      refine ⟨⟨rfl, rfl, rfl, ?_, fun b hb => ?_⟩, _, rfl, .inr ⟨_, _, _, rfl, Nat.le_refl _, Array.getElem?_push_size, hg2, ?_⟩⟩
      · show w.heap.size ≤ (w.heap.push _).size
        rw [Array.size_push]; omega
      · show (w.heap.push _)[b]? = w.heap[b]?
        rw [Array.getElem?_push]; exact if_neg (by omega)
      · rw [Array.size_append, Array.size_append, size_zeroCells, size_zeroCells]
        show 0 + (0 + n - 0) * 4 + (grownCap w (0 + n) 0 198 - (0 + n)) * 4 = grownCap w (0 + n) 0 198 * 4
        omega
end Go.Proofs.YtnkdlkgannnfhaaGreatDoor
set_option maxRecDepth 20000
namespace Go.Proofs.YtnkdlkgannnfhaaGreatDoor
open Go Go.Eng
def esF : List Ent → List DV := fun l => [ents l]
abbrev entss (l : List (List Ent)) : DV := seqD 1 esF [] l
def lensE (l : List (List Ent)) : Nat := (l.map List.length).sum
theorem lensE_take {l : List (List Ent)} {i : Nat} (h : i < l.length) : lensE (l.take (i + 1)) = lensE (l.take i) + (l.getD i []).length := by
  unfold lensE; rw [take_snocD (d := []) h]; simp
theorem lensE_le {l : List (List Ent)} {i : Nat} : lensE (l.take i) ≤ lensE l := by
  have h := congrArg lensE (List.take_append_drop i l)
  have h2 : lensE (l.take i ++ l.drop i) = lensE (l.take i) + lensE (l.drop i) := by unfold lensE; rw [List.map_append, List.sum_append]
  omega
theorem flat_lenE (l : List (List Ent)) : l.flatten.length = lensE l := by
  unfold lensE; rw [List.length_flatten]
-- slices.Concat of entries
theorem sConcatE (l : List (List Ent)) (hl : l.length ≤ 2^20) (hn : lensE l ≤ 2^20) :
    FSpec Tryz.prog 222 [.d (entss l)] [] (fun y r => y = .buf 6 ∧ r = [(6, seqB 198 4 enF en0 l.flatten)]) := by
  refine spec_of hT (C := []) Tryz.func222 rfl Tryz.call222 rfl rfl rfl ?_
  conv => whnf
  refine LoopX.rule hT (C := []) (ι := Nat) (fun i => i ≤ l.length) (fun i => mkSt [(0, .d (entss l)), (3, .d (.int .i64 (lensE (l.take i)))), (9, .d (entss l)), (10, .d (.int .i64 l.length)), (11, .d (.int .i64 i))] []) (fun i => l.length - i) 0 (by omega) (by refine Entails.mk' [] rfl rfl ?_ ?_ <;> repeat' (first | exact True.intro | exact SV.le_refl _ | exact Res.le_refl _ | exact SV.le_int (by omega) | exact SV.le_any _ | refine And.intro ?_ ?_)) ?_
  rintro i p1
  have e1 : (i : Int).toNat = i := Int.toNat_natCast i
  have hls : lensE (l.take i) ≤ lensE l := lensE_le
  have hls2 : i < l.length → lensE (l.take i) + (l.getD (i : Int).toNat []).length ≤ lensE l := fun h => by rw [e1, ← lensE_take h]; exact lensE_le
  conv => whnf
  repeat' (first
    | (refine br_intro (fun hb => ?_) (fun hb => ?_) <;> (try simp only [decide_eq_true_eq, decide_eq_false_iff_not, Bool.not_eq_true', Bool.not_eq_false', Bool.and_eq_true, Bool.or_eq_true, beq_iff_eq, not_and, Int.not_le, Int.not_lt, Int.toNat_natCast, beq_eq_false_iff_ne, ne_eq, eq_self, not_true_eq_false, not_false_eq_true] at hb) <;> (conv => whnf))
    | omega
    | (refine And.intro ?_ ?_; ((try dsimp only); first | omega | (refine ⟨by omega, by omega, Int.le_trans (Int.mul_le_mul_of_nonneg_right (Int.ofNat_le.2 (Nat.le_of_ble_eq_true (rfl : Nat.ble _ 1024 = true))) (by omega)) (by omega), by omega⟩) | (refine Nat.le_trans (Nat.mul_le_mul_left _ (Nat.le_of_ble_eq_true (rfl : Nat.ble _ 1024 = true))) ?_; omega) | (unfold inI64; omega) | (constructor <;> omega) | (simp only [inI64, List.length_cons, List.length_append, List.length_nil, List.length_set] at *; omega) | decide | (unfold inI64; decide)); conv => whnf)
    | omega | decide | assumption)
  · refine ⟨i + 1, by omega, by omega, Entails.mk' [] rfl rfl ⟨SV.le_refl _, SV.le_int ?_, SV.le_refl _, SV.le_refl _, SV.le_refl _, trivial⟩ trivial⟩
    rw [lensE_take (by omega), e1]; omega
  have hi : i = l.length := by omega
  subst hi
  rw [List.take_length] at *
  refine CallX.of (sGrowE (lensE l) hn) [(1000001, 24)] rfl ⟨SV.le_refl _, SV.le_refl _, trivial⟩ trivial rfl rfl ?_
  rintro x rout ⟨rfl, rfl⟩
  refine ⟨rfl, ?_⟩
  conv => whnf
  repeat' (first
    | (refine br_intro (fun hb => ?_) (fun hb => ?_) <;> (try simp only [decide_eq_true_eq, decide_eq_false_iff_not, Bool.not_eq_true', Bool.not_eq_false', Bool.and_eq_true, Bool.or_eq_true, beq_iff_eq, not_and, Int.not_le, Int.not_lt, Int.toNat_natCast, beq_eq_false_iff_ne, ne_eq, eq_self, not_true_eq_false, not_false_eq_true] at hb) <;> (conv => whnf))
    | omega
    | (refine And.intro ?_ ?_; ((try dsimp only); first | omega | (refine ⟨by omega, by omega, Int.le_trans (Int.mul_le_mul_of_nonneg_right (Int.ofNat_le.2 (Nat.le_of_ble_eq_true (rfl : Nat.ble _ 1024 = true))) (by omega)) (by omega), by omega⟩) | (refine Nat.le_trans (Nat.mul_le_mul_left _ (Nat.le_of_ble_eq_true (rfl : Nat.ble _ 1024 = true))) ?_; omega) | (unfold inI64; omega) | (constructor <;> omega) | (simp only [inI64, List.length_cons, List.length_append, List.length_nil, List.length_set] at *; omega) | decide | (unfold inI64; decide)); conv => whnf)
    | omega | decide | assumption)
  refine LoopX.rule hT (C := []) (ι := Nat) (fun i => i ≤ l.length) (fun i => mkSt [(6, .buf 6), (25, .d (entss l)), (26, .d (.int .i64 l.length)), (27, .d (.int .i64 i))] [(6, seqB 198 4 enF en0 (l.take i).flatten)]) (fun i => l.length - i) 0 (by omega) ?_ ?_
  · exact Entails.mk' [(6, 24)] rfl rfl ⟨SV.le_refl _, SV.le_refl _, SV.le_refl _, SV.le_refl _, trivial⟩ ⟨Res.le_buf rfl (fun i hi => absurd hi (by omega)), trivial⟩
  rintro i p1
  have e1 : (i : Int).toNat = i := Int.toNat_natCast i
  have hls : lensE (l.take i) ≤ lensE l := lensE_le
  have hf := flat_lenE (l.take i)
  have hls2 : (i : Int) < l.length → (l.take i).flatten.length + (l.getD (i : Int).toNat []).length ≤ 2^20 := fun h => by rw [e1, hf, ← lensE_take (by omega)]; exact Nat.le_trans lensE_le hn
  conv => whnf
  repeat' (first
    | (refine br_intro (fun hb => ?_) (fun hb => ?_) <;> (try simp only [decide_eq_true_eq, decide_eq_false_iff_not, Bool.not_eq_true', Bool.not_eq_false', Bool.and_eq_true, Bool.or_eq_true, beq_iff_eq, not_and, Int.not_le, Int.not_lt, Int.toNat_natCast, beq_eq_false_iff_ne, ne_eq, eq_self, not_true_eq_false, not_false_eq_true] at hb) <;> (conv => whnf))
    | omega
    | (refine And.intro ?_ ?_; ((try dsimp only); first | omega | (refine ⟨by omega, by omega, Int.le_trans (Int.mul_le_mul_of_nonneg_right (Int.ofNat_le.2 (Nat.le_of_ble_eq_true (rfl : Nat.ble _ 1024 = true))) (by omega)) (by omega), by omega⟩) | (refine Nat.le_trans (Nat.mul_le_mul_left _ (Nat.le_of_ble_eq_true (rfl : Nat.ble _ 1024 = true))) ?_; omega) | (unfold inI64; omega) | (constructor <;> omega) | (simp only [inI64, List.length_cons, List.length_append, List.length_nil, List.length_set] at *; omega) | decide | (unfold inI64; decide)); conv => whnf)
    | omega | decide | assumption)
  · have e2 : (l.take (i + 1)).flatten = (l.take i).flatten ++ l.getD (i : Int).toNat [] := by rw [take_snocD (d := []) (by omega), e1]; simp
    refine ⟨i + 1, by omega, by omega, Entails.mk' [(6, 33)] rfl rfl ⟨SV.le_refl _, SV.le_refl _, SV.le_refl _, SV.le_refl _, trivial⟩ ⟨?_, trivial⟩⟩
    rw [e2]; exact Res.le_appF
  · have hi : i = l.length := by omega
    subst hi
    refine .ret _ ?_
    conv => whnf
    refine ⟨_, ⟨rfl, rfl⟩, ?_, trivial⟩
    rw [List.take_length]; exact Res.le_refl _
def e1 : Ent := ⟨1, [100], 1, [120]⟩
theorem sPrinted1 : FSpec Tryz.prog 270 [.d (.str [120])] [] (fun x r => x = .d (.bool true) ∧ r = []) := by
  refine spec_of hT (C := []) Tryz.func270 rfl Tryz.call270 rfl rfl rfl ?_
  conv => whnf
  repeat' (first
    | (refine LoopX.run hT (C := []) 4 rfl [0, 5, 6] [] (fun _ _ h => h) (fun _ h => h) ?_; conv => whnf)
    | (refine br_intro (fun hb => ?_) (fun hb => ?_) <;> (try simp only [decide_eq_true_eq, decide_eq_false_iff_not, Bool.not_eq_true', Bool.not_eq_false', Bool.and_eq_true, Bool.or_eq_true, beq_iff_eq, not_and, Int.not_le, Int.not_lt, Int.toNat_natCast, beq_eq_false_iff_ne, ne_eq, eq_self, not_true_eq_false, not_false_eq_true] at hb) <;> (conv => whnf))
    | omega
    | (refine And.intro ?_ ?_; ((try dsimp only); first | omega | (refine ⟨by omega, by omega, Int.le_trans (Int.mul_le_mul_of_nonneg_right (Int.ofNat_le.2 (Nat.le_of_ble_eq_true (rfl : Nat.ble _ 1024 = true))) (by omega)) (by omega), by omega⟩) | (refine Nat.le_trans (Nat.mul_le_mul_left _ (Nat.le_of_ble_eq_true (rfl : Nat.ble _ 1024 = true))) ?_; omega) | (unfold inI64; omega) | (constructor <;> omega) | (simp only [inI64, List.length_cons, List.length_append, List.length_nil, List.length_set] at *; omega) | decide | (unfold inI64; decide)); conv => whnf)
    | omega | decide | assumption)
  refine .ret _ ?_
  conv => whnf
  refine ⟨[], ⟨?_, rfl⟩, trivial⟩
  conv => lhs; whnf
-- desk.Check, of one entry
set_option maxHeartbeats 4000000 in
theorem sDChk1 : FSpec Tryz.prog 221 [.d (ents [e1])] [] (fun x r => x = .d (.int .i64 0) ∧ r = []) := by
  have h108 := s108 [100] (by simp)
  rw [show isKeyB [100] = true from by decide] at h108
  refine spec_of hT (C := []) Tryz.func221 rfl Tryz.call221 rfl rfl rfl ?_
  conv => whnf
  repeat' (first
    | (refine LoopX.run hT (C := []) 10 rfl [0, 3, 11, 12, 13] [] (fun _ _ h => h) (fun _ h => h) ?_; conv => whnf)
    | (refine CallX.exact (s154 1) rfl rfl ?_; rotate_right; conv => whnf)
    | (refine CallX.exact (h108) rfl rfl ?_; rotate_right; conv => whnf)
    | (refine CallX.exact (s119 1 1 1000000) rfl rfl ?_; rotate_right; conv => whnf)
    | (refine CallX.exact (sPrinted1) rfl rfl ?_; rotate_right; conv => whnf)
    | (refine br_intro (fun hb => ?_) (fun hb => ?_) <;> (try simp only [decide_eq_true_eq, decide_eq_false_iff_not, Bool.not_eq_true', Bool.not_eq_false', Bool.and_eq_true, Bool.or_eq_true, beq_iff_eq, not_and, Int.not_le, Int.not_lt, Int.toNat_natCast, beq_eq_false_iff_ne, ne_eq, eq_self, not_true_eq_false, not_false_eq_true] at hb) <;> (conv => whnf))
    | (refine RegX.rule (id := 16) hT rfl [] [(0, []), (1, []), (2, []), (3, []), (4, [3]), (5, [3]), (6, []), (7, []), (8, [3, 4, 5, 6, 7]), (9, []), (10, []), (11, []), (12, [])] (by decide +kernel) ?_; conv => whnf)
    | omega
    | (refine And.intro ?_ ?_; ((try dsimp only); first | omega | (refine ⟨by omega, by omega, Int.le_trans (Int.mul_le_mul_of_nonneg_right (Int.ofNat_le.2 (Nat.le_of_ble_eq_true (rfl : Nat.ble _ 1024 = true))) (by omega)) (by omega), by omega⟩) | (refine Nat.le_trans (Nat.mul_le_mul_left _ (Nat.le_of_ble_eq_true (rfl : Nat.ble _ 1024 = true))) ?_; omega) | (unfold inI64; omega) | (constructor <;> omega) | (simp only [inI64, List.length_cons, List.length_append, List.length_nil, List.length_set] at *; omega) | decide | (unfold inI64; decide)); conv => whnf)
    | omega | decide | assumption)
  refine .ret _ ?_
  conv => whnf
  refine ⟨[], ⟨?_, rfl⟩, trivial⟩
  conv => lhs; whnf
theorem sDChk0 : FSpec Tryz.prog 221 [.d (ents [])] [] (fun x r => x = .d (.int .i64 0) ∧ r = []) := by
  refine spec_of hT (C := []) Tryz.func221 rfl Tryz.call221 rfl rfl rfl ?_
  conv => whnf
  repeat' (first
    | (refine LoopX.run hT (C := []) 10 rfl [0, 3, 11, 12, 13] [] (fun _ _ h => h) (fun _ h => h) ?_; conv => whnf)
    | (refine br_intro (fun hb => ?_) (fun hb => ?_) <;> (try simp only [decide_eq_true_eq, decide_eq_false_iff_not, Bool.not_eq_true', Bool.not_eq_false', Bool.and_eq_true, Bool.or_eq_true, beq_iff_eq, not_and, Int.not_le, Int.not_lt, Int.toNat_natCast, beq_eq_false_iff_ne, ne_eq, eq_self, not_true_eq_false, not_false_eq_true] at hb) <;> (conv => whnf))
    | (refine RegX.rule (id := 16) hT rfl [] [(0, []), (1, []), (2, []), (3, []), (4, [3]), (5, [3]), (6, []), (7, []), (8, [3, 4, 5, 6, 7]), (9, []), (10, []), (11, []), (12, [])] (by decide +kernel) ?_; conv => whnf)
    | omega
    | (refine And.intro ?_ ?_; ((try dsimp only); first | omega | (refine ⟨by omega, by omega, Int.le_trans (Int.mul_le_mul_of_nonneg_right (Int.ofNat_le.2 (Nat.le_of_ble_eq_true (rfl : Nat.ble _ 1024 = true))) (by omega)) (by omega), by omega⟩) | (refine Nat.le_trans (Nat.mul_le_mul_left _ (Nat.le_of_ble_eq_true (rfl : Nat.ble _ 1024 = true))) ?_; omega) | (unfold inI64; omega) | (constructor <;> omega) | (simp only [inI64, List.length_cons, List.length_append, List.length_nil, List.length_set] at *; omega) | decide | (unfold inI64; decide)); conv => whnf)
    | omega | decide | assumption)
  refine .ret _ ?_
  conv => whnf
  refine ⟨[], ⟨?_, rfl⟩, trivial⟩
  conv => lhs; whnf
abbrev enB (l : List Ent) : Res := seqB 198 4 enF en0 l
theorem sIns1 : FSpec Tryz.prog 314 [.buf 1000001, .d (.int .i64 0), .d (.int .i64 1), .fn 224 []] [(1000001, enB [e1])] (fun y r => y = .tup [] ∧ r = [(1000001, enB [e1])]) := by
  refine spec_of hT (C := []) Tryz.func314 rfl Tryz.call314 rfl rfl rfl ?_
  conv => whnf
  repeat' (first
    | (refine LoopX.run hT (C := []) 2 rfl [0, 1, 2, 3, 8] [1000001] (fun _ _ h => h) (fun _ h => h) ?_; conv => whnf)
    | (refine LoopX.run hT (C := []) 8 rfl [0, 1, 2, 3, 8, 9] [1000001] (fun _ _ h => h) (fun _ h => h) ?_; conv => whnf)
    | (refine br_intro (fun hb => ?_) (fun hb => ?_) <;> (try simp only [decide_eq_true_eq, decide_eq_false_iff_not, Bool.not_eq_true', Bool.not_eq_false', Bool.and_eq_true, Bool.or_eq_true, beq_iff_eq, not_and, Int.not_le, Int.not_lt, Int.toNat_natCast, beq_eq_false_iff_ne, ne_eq, eq_self, not_true_eq_false, not_false_eq_true] at hb) <;> (conv => whnf))
    | (refine RegX.rule (id := 4) hT rfl [] [(0, []), (1, [0]), (2, []), (3, []), (4, []), (5, [4]), (6, [4, 5]), (7, [4]), (8, [4]), (9, [4, 5, 6, 7, 8]), (10, [4, 5, 6, 7, 8, 9]), (11, [4, 5, 6, 7, 8, 9]), (12, [4, 5, 6, 7, 8]), (13, [4, 5, 6, 7, 8]), (14, []), (15, []), (16, [])] (by decide +kernel) ?_; conv => whnf)
    | (refine RegX.rule (id := 6) hT rfl [] [(0, []), (1, [0]), (2, [0, 1]), (3, [0, 1, 2]), (4, [0, 1, 2]), (5, [0, 1, 2, 3, 4]), (6, [0, 1, 2, 3, 4, 5]), (7, [0, 1, 2, 3, 4, 5]), (8, [0, 1, 2, 3, 4]), (9, [0, 1, 2, 3, 4]), (10, [0, 1, 2, 3, 4, 5, 6, 7, 8, 9]), (11, [0, 1, 2, 3, 4, 5, 6, 7, 8, 9, 10]), (12, [0, 1, 2, 3, 4, 5, 6, 7, 8, 9]), (13, [0, 1, 2, 3, 4, 5, 6, 7, 8, 9]), (14, [2, 3, 4]), (15, [2, 3, 4]), (16, []), (17, [])] (by decide +kernel) ?_; conv => whnf)
    | omega
    | (refine And.intro ?_ ?_; ((try dsimp only); first | omega | (refine ⟨by omega, by omega, Int.le_trans (Int.mul_le_mul_of_nonneg_right (Int.ofNat_le.2 (Nat.le_of_ble_eq_true (rfl : Nat.ble _ 1024 = true))) (by omega)) (by omega), by omega⟩) | (refine Nat.le_trans (Nat.mul_le_mul_left _ (Nat.le_of_ble_eq_true (rfl : Nat.ble _ 1024 = true))) ?_; omega) | (unfold inI64; omega) | (constructor <;> omega) | (simp only [inI64, List.length_cons, List.length_append, List.length_nil, List.length_set] at *; omega) | decide | (unfold inI64; decide)); conv => whnf)
    | omega | decide | assumption)
  refine .ret _ ?_
  conv => whnf
  exact ⟨_, ⟨rfl, rfl⟩, Res.le_refl _, trivial⟩
theorem sStb1 : FSpec Tryz.prog 272 [.buf 1000001, .d (.int .i64 1), .fn 224 []] [(1000001, enB [e1])] (fun y r => y = .tup [] ∧ r = [(1000001, enB [e1])]) := by
  refine spec_of hT (C := []) Tryz.func272 rfl Tryz.call272 rfl rfl rfl ?_
  conv => whnf
  repeat' (first
    | (refine LoopX.run hT (C := []) 4 rfl [0, 1, 2, 6, 7, 8] [1000001] (fun _ _ h => h) (fun _ h => h) ?_; conv => whnf)
    | (refine LoopX.run hT (C := []) 14 rfl [0, 1, 2, 6] [1000001] (fun _ _ h => h) (fun _ h => h) ?_; conv => whnf)
    | (refine LoopX.run hT (C := []) 18 rfl [0, 1, 2, 6, 7, 8] [1000001] (fun _ _ h => h) (fun _ h => h) ?_; conv => whnf)
    | (refine CallX.of sIns1 [(1000001, 1000001)] rfl ⟨SV.le_refl _, SV.le_refl _, SV.le_refl _, SV.le_refl _, trivial⟩ ⟨Res.le_refl _, trivial⟩ rfl rfl ?_; rintro x rout ⟨rfl, rfl⟩; refine ⟨rfl, ?_⟩; conv => whnf)
    | (refine br_intro (fun hb => ?_) (fun hb => ?_) <;> (try simp only [decide_eq_true_eq, decide_eq_false_iff_not, Bool.not_eq_true', Bool.not_eq_false', Bool.and_eq_true, Bool.or_eq_true, beq_iff_eq, not_and, Int.not_le, Int.not_lt, Int.toNat_natCast, beq_eq_false_iff_ne, ne_eq, eq_self, not_true_eq_false, not_false_eq_true] at hb) <;> (conv => whnf))
    | omega
    | (refine And.intro ?_ ?_; ((try dsimp only); first | omega | (refine ⟨by omega, by omega, Int.le_trans (Int.mul_le_mul_of_nonneg_right (Int.ofNat_le.2 (Nat.le_of_ble_eq_true (rfl : Nat.ble _ 1024 = true))) (by omega)) (by omega), by omega⟩) | (refine Nat.le_trans (Nat.mul_le_mul_left _ (Nat.le_of_ble_eq_true (rfl : Nat.ble _ 1024 = true))) ?_; omega) | (unfold inI64; omega) | (constructor <;> omega) | (simp only [inI64, List.length_cons, List.length_append, List.length_nil, List.length_set] at *; omega) | decide | (unfold inI64; decide)); conv => whnf)
    | omega | decide | assumption)
  refine .ret _ ?_
  conv => whnf
  exact ⟨_, ⟨rfl, rfl⟩, Res.le_refl _, trivial⟩
theorem sSrt1 : FSpec Tryz.prog 223 [.buf 1000001, .fn 224 []] [(1000001, enB [e1])] (fun y r => y = .tup [] ∧ r = [(1000001, enB [e1])]) := by
  refine spec_of hT (C := []) Tryz.func223 rfl Tryz.call223 rfl rfl rfl ?_
  conv => whnf
  repeat' (first
    | (refine CallX.of sStb1 [(1000001, 1000001)] rfl ⟨SV.le_refl _, SV.le_refl _, SV.le_refl _, trivial⟩ ⟨Res.le_refl _, trivial⟩ rfl rfl ?_; rintro x rout ⟨rfl, rfl⟩; refine ⟨rfl, ?_⟩; conv => whnf)
    | (refine br_intro (fun hb => ?_) (fun hb => ?_) <;> (try simp only [decide_eq_true_eq, decide_eq_false_iff_not, Bool.not_eq_true', Bool.not_eq_false', Bool.and_eq_true, Bool.or_eq_true, beq_iff_eq, not_and, Int.not_le, Int.not_lt, Int.toNat_natCast, beq_eq_false_iff_ne, ne_eq, eq_self, not_true_eq_false, not_false_eq_true] at hb) <;> (conv => whnf))
    | omega
    | (refine And.intro ?_ ?_; ((try dsimp only); first | omega | (refine ⟨by omega, by omega, Int.le_trans (Int.mul_le_mul_of_nonneg_right (Int.ofNat_le.2 (Nat.le_of_ble_eq_true (rfl : Nat.ble _ 1024 = true))) (by omega)) (by omega), by omega⟩) | (refine Nat.le_trans (Nat.mul_le_mul_left _ (Nat.le_of_ble_eq_true (rfl : Nat.ble _ 1024 = true))) ?_; omega) | (unfold inI64; omega) | (constructor <;> omega) | (simp only [inI64, List.length_cons, List.length_append, List.length_nil, List.length_set] at *; omega) | decide | (unfold inI64; decide)); conv => whnf)
    | omega | decide | assumption)
  refine .ret _ ?_
  conv => whnf
  exact ⟨_, ⟨rfl, rfl⟩, Res.le_refl _, trivial⟩
theorem sCmp1 : FSpec Tryz.prog 226 [.buf 1000001] [(1000001, enB [e1])] (fun y r => y = .buf 1000001 ∧ r = [(1000001, enB [e1])]) := by
  refine spec_of hT (C := []) Tryz.func226 rfl Tryz.call226 rfl rfl rfl ?_
  conv => whnf
  repeat' (first
    | (refine br_intro (fun hb => ?_) (fun hb => ?_) <;> (try simp only [decide_eq_true_eq, decide_eq_false_iff_not, Bool.not_eq_true', Bool.not_eq_false', Bool.and_eq_true, Bool.or_eq_true, beq_iff_eq, not_and, Int.not_le, Int.not_lt, Int.toNat_natCast, beq_eq_false_iff_ne, ne_eq, eq_self, not_true_eq_false, not_false_eq_true] at hb) <;> (conv => whnf))
    | (refine RegX.rule (id := 6) hT rfl [] [(0, []), (1, [0]), (2, []), (3, []), (4, [0, 1, 2, 3]), (5, [0, 1, 2, 3, 4]), (6, [0, 1, 2, 3, 4]), (7, [0, 1, 2, 3]), (8, [0, 1, 2, 3]), (9, [])] (by decide +kernel) ?_; conv => whnf)
    | (refine RegX.rule (id := 11) hT rfl [] [(0, []), (1, [0]), (2, []), (3, []), (4, [0, 1, 2, 3]), (5, [0, 1, 2, 3, 4]), (6, [0, 1, 2, 3, 4]), (7, [0, 1, 2, 3]), (8, [0, 1, 2, 3]), (9, [])] (by decide +kernel) ?_; conv => whnf)
    | omega
    | (refine And.intro ?_ ?_; ((try dsimp only); first | omega | (refine ⟨by omega, by omega, Int.le_trans (Int.mul_le_mul_of_nonneg_right (Int.ofNat_le.2 (Nat.le_of_ble_eq_true (rfl : Nat.ble _ 1024 = true))) (by omega)) (by omega), by omega⟩) | (refine Nat.le_trans (Nat.mul_le_mul_left _ (Nat.le_of_ble_eq_true (rfl : Nat.ble _ 1024 = true))) ?_; omega) | (unfold inI64; omega) | (constructor <;> omega) | (simp only [inI64, List.length_cons, List.length_append, List.length_nil, List.length_set] at *; omega) | decide | (unfold inI64; decide)); conv => whnf)
    | omega | decide | assumption)
  refine .ret _ ?_
  conv => whnf
  exact ⟨_, ⟨rfl, rfl⟩, Res.le_refl _, trivial⟩
-- desk.Merge, of the try
set_option maxHeartbeats 4000000 in
theorem sMerge1 : FSpec Tryz.prog 133 [.d (ents [e1]), .d (ents [])] [] (fun y r => y = .tup [.d (ents [e1]), .d (.int .i64 0)] ∧ r = []) := by
  have h105 := s105 [0, 0] (by simp)
  have hc := sConcatE [[e1], []] (by simp) (by decide)
  refine spec_of hT (C := []) Tryz.func133 rfl Tryz.call133 rfl rfl rfl ?_
  conv => whnf
  repeat' (first
    | (refine CallX.exact (sDChk1) rfl rfl ?_; rotate_right; conv => whnf)
    | (refine CallX.exact (sDChk0) rfl rfl ?_; rotate_right; conv => whnf)
    | (refine CallX.pure h105 ⟨SV.le_lit (by rfl) (by rfl), trivial⟩ rfl ?_; conv => whnf)
    | (refine br_intro (fun hb => ?_) (fun hb => ?_) <;> (try simp only [decide_eq_true_eq, decide_eq_false_iff_not, Bool.not_eq_true', Bool.not_eq_false', Bool.and_eq_true, Bool.or_eq_true, beq_iff_eq, not_and, Int.not_le, Int.not_lt, Int.toNat_natCast, beq_eq_false_iff_ne, ne_eq, eq_self, not_true_eq_false, not_false_eq_true] at hb) <;> (conv => whnf))
    | omega
    | (refine And.intro ?_ ?_; ((try dsimp only); first | omega | (refine ⟨by omega, by omega, Int.le_trans (Int.mul_le_mul_of_nonneg_right (Int.ofNat_le.2 (Nat.le_of_ble_eq_true (rfl : Nat.ble _ 1024 = true))) (by omega)) (by omega), by omega⟩) | (refine Nat.le_trans (Nat.mul_le_mul_left _ (Nat.le_of_ble_eq_true (rfl : Nat.ble _ 1024 = true))) ?_; omega) | (unfold inI64; omega) | (constructor <;> omega) | (simp only [inI64, List.length_cons, List.length_append, List.length_nil, List.length_set] at *; omega) | decide | (unfold inI64; decide)); conv => whnf)
    | omega | decide | assumption)
  refine CallX.of hc [(6, 24)] rfl ⟨SV.le_lit (by rfl) (by rfl), trivial⟩ trivial rfl rfl ?_
  rintro x rout ⟨rfl, rfl⟩
  refine ⟨rfl, ?_⟩
  conv => whnf
  repeat' (first
    | (refine CallX.of sSrt1 [(1000001, 24)] rfl ⟨SV.le_refl _, SV.le_refl _, trivial⟩ ⟨Res.le_refl _, trivial⟩ rfl rfl ?_; rintro x rout ⟨rfl, rfl⟩; refine ⟨rfl, ?_⟩; conv => whnf)
    | (refine CallX.of sCmp1 [(1000001, 24)] rfl ⟨SV.le_refl _, trivial⟩ ⟨Res.le_refl _, trivial⟩ rfl rfl ?_; rintro x rout ⟨rfl, rfl⟩; refine ⟨rfl, ?_⟩; conv => whnf)
    | (refine LoopX.run hT (C := []) 18 rfl [7, 8, 30, 31, 32] [24] (fun _ _ h => h) (fun _ h => h) ?_; conv => whnf)
    | (refine br_intro (fun hb => ?_) (fun hb => ?_) <;> (try simp only [decide_eq_true_eq, decide_eq_false_iff_not, Bool.not_eq_true', Bool.not_eq_false', Bool.and_eq_true, Bool.or_eq_true, beq_iff_eq, not_and, Int.not_le, Int.not_lt, Int.toNat_natCast, beq_eq_false_iff_ne, ne_eq, eq_self, not_true_eq_false, not_false_eq_true] at hb) <;> (conv => whnf))
    | omega
    | (refine And.intro ?_ ?_; ((try dsimp only); first | omega | (refine ⟨by omega, by omega, Int.le_trans (Int.mul_le_mul_of_nonneg_right (Int.ofNat_le.2 (Nat.le_of_ble_eq_true (rfl : Nat.ble _ 1024 = true))) (by omega)) (by omega), by omega⟩) | (refine Nat.le_trans (Nat.mul_le_mul_left _ (Nat.le_of_ble_eq_true (rfl : Nat.ble _ 1024 = true))) ?_; omega) | (unfold inI64; omega) | (constructor <;> omega) | (simp only [inI64, List.length_cons, List.length_append, List.length_nil, List.length_set] at *; omega) | decide | (unfold inI64; decide)); conv => whnf)
    | omega | decide | assumption)
  refine .freeze _ 24 198 4 _ _ rfl (.weak _ ?_)
  conv => whnf
  exact ⟨.tup [.d (ents [e1]), .d (.int .i64 0)], _, SV.le_tup ⟨SV.le_refl _, SV.le_refl _, trivial⟩, ⟨rfl, rfl⟩, trivial⟩
theorem dueE_1 : dueE ⟨0, 0, 1, 0⟩ ⟨[110], [65, 65], 0, 0, 7⟩ 0 = 0 := by decide +kernel
theorem dueV_1 : dueV ⟨0, 0, 1, 0⟩ ⟨[110], [65, 65], 0, 0, 7⟩ 0 = 7 := by decide +kernel
theorem dueW_1 : dueW ⟨0, 0, 1, 0⟩ ⟨[110], [65, 65], 0, 0, 7⟩ 0 = .tup [.d (.int .i64 7), .d (.int .i64 0)] := by unfold dueW; rw [if_pos dueE_1, dueV_1]
-- ready
set_option maxHeartbeats 4000000 in
theorem sReady : FSpec Tryz.prog 38 [] [] (fun x r => x = .d (.bool true) ∧ r = []) := by
  have h35 := s35 3 [1, 1] (by simp)
  rw [splitF_31, if_pos rfl, splitG_31] at h35
  have hd := sDue ⟨0, 0, 1, 0⟩ ⟨[110], [65, 65], 0, 0, 7⟩ 0 ⟨by simp, by simp⟩
  rw [dueW_1] at hd
  refine spec_of hT (C := []) Tryz.func38 rfl Tryz.call38 rfl rfl rfl ?_
  conv => whnf
  repeat' (first
    | (refine CallX.pure h35 ⟨SV.le_refl _, SV.le_lit (by rfl) (by rfl), trivial⟩ rfl ?_; conv => whnf)
    | (refine CallX.exact (hd) rfl rfl ?_; rotate_right; conv => whnf)
    | (refine CallX.pure s27t ⟨SV.le_lit rfl rfl, SV.le_lit rfl rfl, trivial⟩ rfl ?_; conv => whnf)
    | (refine CallX.pure sMerge1 ⟨SV.le_lit rfl rfl, SV.le_nilS, trivial⟩ rfl ?_; conv => whnf)
    | (refine br_intro (fun hb => ?_) (fun hb => ?_) <;> (try simp only [decide_eq_true_eq, decide_eq_false_iff_not, Bool.not_eq_true', Bool.not_eq_false', Bool.and_eq_true, Bool.or_eq_true, beq_iff_eq, not_and, Int.not_le, Int.not_lt, Int.toNat_natCast, beq_eq_false_iff_ne, ne_eq, eq_self, not_true_eq_false, not_false_eq_true] at hb) <;> (conv => whnf))
    | omega
    | (refine And.intro ?_ ?_; ((try dsimp only); first | omega | (refine ⟨by omega, by omega, Int.le_trans (Int.mul_le_mul_of_nonneg_right (Int.ofNat_le.2 (Nat.le_of_ble_eq_true (rfl : Nat.ble _ 1024 = true))) (by omega)) (by omega), by omega⟩) | (refine Nat.le_trans (Nat.mul_le_mul_left _ (Nat.le_of_ble_eq_true (rfl : Nat.ble _ 1024 = true))) ?_; omega) | (unfold inI64; omega) | (constructor <;> omega) | (simp only [inI64, List.length_cons, List.length_append, List.length_nil, List.length_set] at *; omega) | decide | (unfold inI64; decide)); conv => whnf)
    | omega | decide | assumption)
  all_goals first
    | (exfalso; omega)
    | (refine .ret _ ?_
       conv => whnf
       refine ⟨[], ⟨?_, rfl⟩, trivial⟩
       conv => lhs; whnf
       all_goals rfl)
end Go.Proofs.YtnkdlkgannnfhaaGreatDoor
set_option maxRecDepth 20000
namespace Go.Proofs.YtnkdlkgannnfhaaGreatDoor
open Go Go.Eng
theorem splitG_len {c : Int} {w : List Int} (h : splitF c w = 0) : (splitG c w).length = w.length := by
  obtain ⟨h1, _, h3, h4⟩ := splitF_zero h
  rw [splitG_eq c w (left_bound c w h1.1 (fun x hx => (h3 x hx).1) h4), rngL_length]
theorem take_bd {l : List Int} (h : ∀ x ∈ l, 0 ≤ x) (i : Nat) : 0 ≤ (l.take i).sum ∧ (l.take i).sum ≤ l.sum := by
  have h1 := sum_nonneg (l := l.take i) (fun x hx => h x (List.mem_of_mem_take hx))
  have h2 := sum_nonneg (l := l.drop i) (fun x hx => h x (List.mem_of_mem_drop hx))
  have h3 : l.sum = (l.take i).sum + (l.drop i).sum := by rw [← List.sum_append, List.take_append_drop]
  omega
theorem sum_takeD {l : List Int} {i : Nat} (hi : i < l.length) : (l.take (i + 1)).sum = (l.take i).sum + l.getD i 0 := by
  rw [sum_take hi, List.getD_eq_getElem?_getD, List.getElem?_eq_getElem hi]; rfl
theorem sum_bd9 {l : List Int} {k : Nat} (hl : l.length ≤ k) (h : ∀ x ∈ l, 0 ≤ x ∧ x ≤ 1000000000) : 0 ≤ l.sum ∧ l.sum ≤ 1000000000 * k := by
  have h1 := sum_nonneg (l := l) (fun x hx => (h x hx).1)
  have h2 := sum_le (l := l) (fun x hx => (h x hx).2)
  omega
theorem map_getD2 (q : List Pair) (i : Nat) : (q.map (·.2)).getD i 0 = (q.getD i ([], 0)).2 := by
  rw [List.getD_eq_getElem?_getD, List.getElem?_map, List.getD_eq_getElem?_getD]
  cases q[i]? <;> rfl
/-- A result that is a row, or nothing. -/
theorem split_case (c : Int) (w : List Int) : ∃ (G : List Int), SV.le (.d (if splitF c w = 0 then ints (splitG c w) else .nilsl)) (.d (ints G)) ∧ G.length ≤ w.length ∧ (splitF c w = 0 → G.sum = c ∧ c ≤ 1000000000) ∧ (splitF c w ≠ 0 → G = []) ∧
    ∀ i, i < G.length → 0 ≤ G.getD i 0 ∧ (w.getD i 0 = 0 → G.getD i 0 = 0) := by
  by_cases h : splitF c w = 0
  · obtain ⟨h1, h2, h3, h4⟩ := splitF_zero h
    rw [if_pos h]
    refine ⟨splitG c w, SV.le_refl _, by rw [splitG_len h]; omega, fun _ => ⟨splitG_sum c w (left_bound c w h1.1 (fun x hx => (h3 x hx).1) h4), h1.2⟩, fun q => absurd h q, fun i hi => ?_⟩
    rw [splitG_len h] at hi
    exact splitG_part h1.1 (fun x hx => (h3 x hx).1) h4 hi
  · rw [if_neg h]
    exact ⟨[], SV.le_nilS, by simp, fun q => absurd q h, fun _ => rfl, fun i hi => absurd hi (by simp)⟩
theorem ex_case (l ws : List Pair) (hl : l.length ≤ 10) (hb : ∀ p ∈ l, 0 ≤ p.2 ∧ p.2 ≤ 1000000000) : ∃ (N : Int) (G : List Pair), (if exF l ws = 0 then exN l ws else 0) = N ∧ SV.le (.d (if exF l ws = 0 then pairs (exL l ws) else .nilsl)) (.d (pairs G)) ∧ G.length ≤ 10 ∧
    (∀ p ∈ G, 0 ≤ p.2 ∧ p.2 ≤ 1000000000) ∧ (0 ≤ N ∧ N ≤ 10000000000) ∧ (exF l ws = 0 → N + (G.map (·.2)).sum = (l.map (·.2)).sum) := by
  by_cases h : exF l ws = 0
  · have hw : waivsE ws = 0 := by unfold exF at h; split at h; (exact h); contradiction
    have hw0 := (waivs_zero hw).2
    have hb2 := exN_bd (M := 1000000000) hb (fun y hy => (hw0 y hy).1)
    have hlen := exL_len l ws
    rw [if_pos h, if_pos h]
    refine ⟨_, exL l ws, rfl, SV.le_refl _, by omega, fun p hp => ?_, by omega, fun _ => ex_sum l ws⟩
    unfold exL at hp
    obtain ⟨x, hx, rfl⟩ := List.mem_map.1 hp
    have hx := (List.mem_filter.1 hx).1
    have h1 := hb x hx
    have h2 := payW_le x.1 ws x.2 (fun y hy => (hw0 y hy).1) h1.1
    show 0 ≤ payW x.1 x.2 ws ∧ payW x.1 x.2 ws ≤ 1000000000
    omega
  · rw [if_neg h, if_neg h]
    exact ⟨_, [], rfl, SV.le_nilS, by simp, by simp, by omega, fun q => absurd q h⟩
-- CentsKept
set_option maxHeartbeats 8000000 in
theorem z4 (n : Nat) (L : Nat → Int) (hn : n ≤ maxLen) (hl : ∀ i, -2^63 ≤ L i ∧ L i < 2^63) : FSpec Tryz.prog 4 [.d (.ro 1 n fun i => [.int .i64 (L i)])] [] (fun x r => x = .d (.bool true) ∧ r = []) := by
  have hL : Rok n L := ⟨hn, hl⟩
  refine spec_of hT (C := []) Tryz.func4 rfl Tryz.call4 rfl rfl rfl ?_
  conv => whnf
  repeat' (first
    | (refine CallX.of (s64 n L hL _ ?_ ?_ 0 100000 ?_ ?_ ?_ ?_) [(1000000, 25)] rfl ⟨SV.le_refl _, SV.le_refl _, SV.le_refl _, trivial⟩ ⟨Res.le_refl _, trivial⟩ rfl rfl ?_; rotate_right; rintro x rout ⟨⟨ce, hce0, hce1, rfl⟩, ⟨c, c1, c2, rfl⟩⟩; refine ⟨rfl, ?_⟩; conv => whnf)
    | (refine CallX.of (s34 n L hL _ ?_ ?_) [(1000000, 25)] rfl ⟨SV.le_refl _, trivial⟩ ⟨Res.le_refl _, trivial⟩ rfl rfl ?_; rotate_right; rintro x rout ⟨⟨w, hw1, hw2, hw3, rfl⟩, ⟨c, c1, c2, rfl⟩⟩; refine ⟨rfl, ?_⟩; conv => whnf)
    | (refine br_intro (fun hb => ?_) (fun hb => ?_) <;> (try simp only [decide_eq_true_eq, decide_eq_false_iff_not, Bool.not_eq_true', Bool.not_eq_false', Bool.and_eq_true, Bool.or_eq_true, beq_iff_eq, not_and, Int.not_le, Int.not_lt, Int.toNat_natCast, beq_eq_false_iff_ne, ne_eq, eq_self, not_true_eq_false, not_false_eq_true] at hb) <;> (conv => whnf))
    | omega
    | (refine And.intro ?_ ?_; ((try dsimp only); first | omega | (refine ⟨by omega, by omega, Int.le_trans (Int.mul_le_mul_of_nonneg_right (Int.ofNat_le.2 (Nat.le_of_ble_eq_true (rfl : Nat.ble _ 1024 = true))) (by omega)) (by omega), by omega⟩) | (refine Nat.le_trans (Nat.mul_le_mul_left _ (Nat.le_of_ble_eq_true (rfl : Nat.ble _ 1024 = true))) ?_; omega) | (unfold inI64; omega) | (constructor <;> omega) | (simp only [inI64, List.length_cons, List.length_append, List.length_nil, List.length_set] at *; omega) | decide | (unfold inI64; decide)); conv => whnf)
    | omega | decide | assumption)
  obtain ⟨G, hle, hGl, hG0, hGn, hGp⟩ := split_case ce w
  have h35 := (s35 ce w (by omega)).up (y' := .tup [.d (ints G), .d (.int .i64 (splitF ce w))]) (SV.le_tup ⟨hle, SV.le_refl _, trivial⟩)
  generalize splitF ce w = F at h35 hG0 hGn
  have hGnn : ∀ x ∈ G, 0 ≤ x := fun x hx => by
    obtain ⟨i, hi, rfl⟩ := mem_getD (d := 0) hx
    exact (hGp i hi).1
  have hGs : 0 ≤ G.sum ∧ G.sum ≤ 1000000000 := by
    by_cases q : F = 0
    · have := hG0 q; omega
    · rw [hGn q]; simp
  repeat' (first
    | (refine CallX.exact (h35) rfl rfl ?_; rotate_right; conv => whnf)
    | (refine br_intro (fun hb => ?_) (fun hb => ?_) <;> (try simp only [decide_eq_true_eq, decide_eq_false_iff_not, Bool.not_eq_true', Bool.not_eq_false', Bool.and_eq_true, Bool.or_eq_true, beq_iff_eq, not_and, Int.not_le, Int.not_lt, Int.toNat_natCast, beq_eq_false_iff_ne, ne_eq, eq_self, not_true_eq_false, not_false_eq_true] at hb) <;> (conv => whnf))
    | omega
    | (refine And.intro ?_ ?_; ((try dsimp only); first | omega | (refine ⟨by omega, by omega, Int.le_trans (Int.mul_le_mul_of_nonneg_right (Int.ofNat_le.2 (Nat.le_of_ble_eq_true (rfl : Nat.ble _ 1024 = true))) (by omega)) (by omega), by omega⟩) | (refine Nat.le_trans (Nat.mul_le_mul_left _ (Nat.le_of_ble_eq_true (rfl : Nat.ble _ 1024 = true))) ?_; omega) | (unfold inI64; omega) | (constructor <;> omega) | (simp only [inI64, List.length_cons, List.length_append, List.length_nil, List.length_set] at *; omega) | decide | (unfold inI64; decide)); conv => whnf)
    | omega | decide | assumption)
  refine LoopX.rule hT (C := []) (ι := Nat) (fun i => i ≤ G.length) (fun i => mkSt [(3, .ptr 25 0), (4, .d (.int .i64 ce)), (5, .d (ints w)), (7, .d (.int .i64 F)), (8, .d (.int .i64 (G.take i).sum)), (36, .d (ints G)), (37, .d (.int .i64 G.length)), (38, .d (.int .i64 i))] [(25, strm n L c)]) (fun i => G.length - i) 0 (by omega) (by refine Entails.mk' [(25, 25)] rfl rfl ?_ ?_ <;> repeat' (first | exact True.intro | exact SV.le_refl _ | exact Res.le_refl _ | exact SV.le_int (by omega) | exact SV.le_any _ | refine And.intro ?_ ?_)) ?_
  rintro i p1
  have e1 : (i : Int).toNat = i := Int.toNat_natCast i
  have ht := take_bd hGnn i
  have hst := fun h : i < G.length => sum_takeD h
  have hgp := fun h : i < G.length => hGp i h
  have hgm := fun h : i < G.length => le_sum hGnn _ (getD_mem (x := 0) h)
  by_cases hi : i < G.length
  · have hst := hst hi
    have hgp := hgp hi
    have hgm := hgm hi
    rw [← e1] at hgp hgm
    conv => whnf
    repeat' (first
      | (refine br_intro (fun hb => ?_) (fun hb => ?_) <;> (try simp only [decide_eq_true_eq, decide_eq_false_iff_not, Bool.not_eq_true', Bool.not_eq_false', Bool.and_eq_true, Bool.or_eq_true, beq_iff_eq, not_and, Int.not_le, Int.not_lt, Int.toNat_natCast, beq_eq_false_iff_ne, ne_eq, eq_self, not_true_eq_false, not_false_eq_true] at hb) <;> (conv => whnf))
      | omega
      | (refine And.intro ?_ ?_; ((try dsimp only); first | omega | (refine ⟨by omega, by omega, Int.le_trans (Int.mul_le_mul_of_nonneg_right (Int.ofNat_le.2 (Nat.le_of_ble_eq_true (rfl : Nat.ble _ 1024 = true))) (by omega)) (by omega), by omega⟩) | (refine Nat.le_trans (Nat.mul_le_mul_left _ (Nat.le_of_ble_eq_true (rfl : Nat.ble _ 1024 = true))) ?_; omega) | (unfold inI64; omega) | (constructor <;> omega) | (simp only [inI64, List.length_cons, List.length_append, List.length_nil, List.length_set] at *; omega) | decide | (unfold inI64; decide)); conv => whnf)
      | omega | decide | assumption)
    all_goals first
      | (refine ⟨i + 1, by omega, by omega, Entails.mk' [(25, 25)] rfl rfl ⟨SV.le_refl _, SV.le_refl _, SV.le_refl _, SV.le_refl _, SV.le_int (by rw [hst, e1]), SV.le_refl _, SV.le_refl _, SV.le_refl _, trivial⟩ ⟨Res.le_refl _, trivial⟩⟩)
      | (exfalso; omega)
  obtain rfl : i = G.length := by omega
  rw [List.take_length]
  conv => whnf
  repeat' (first
    | (refine CallX.of (sWin n L hL _ ?_ ?_) [(1000000, 25)] rfl ⟨SV.le_refl _, trivial⟩ ⟨Res.le_refl _, trivial⟩ rfl rfl ?_; rotate_right; rintro x rout ⟨⟨u, v, rfl⟩, ⟨c, c3, c4, rfl⟩⟩; refine ⟨rfl, ?_⟩; conv => whnf)
    | (refine CallX.of (s64 n L hL _ ?_ ?_ 0 3 ?_ ?_ ?_ ?_) [(1000000, 25)] rfl ⟨SV.le_refl _, SV.le_refl _, SV.le_refl _, trivial⟩ ⟨Res.le_refl _, trivial⟩ rfl rfl ?_; rotate_right; rintro x rout ⟨⟨m, hm0, hm1, rfl⟩, ⟨c, c1, c2, rfl⟩⟩; refine ⟨rfl, ?_⟩; conv => whnf)
    | (refine CallX.of (sHirs n L hL _ ?_ ?_ m ?_ ?_) [(1000000, 25)] rfl ⟨SV.le_refl _, SV.le_refl _, trivial⟩ ⟨Res.le_refl _, trivial⟩ rfl rfl ?_; rotate_right; rintro x rout ⟨⟨l, hl5, rfl⟩, ⟨c, c5, c6, rfl⟩⟩; refine ⟨rfl, ?_⟩; conv => whnf)
    | (refine CallX.of (z33 [118, 49] (by simp) u v l hl5 ce) [] rfl ⟨SV.le_refl _, SV.le_refl _, SV.le_refl _, SV.le_refl _, trivial⟩ trivial rfl rfl ?_; rintro x rout ⟨⟨q2, E2, rfl, hne, heq⟩, rfl⟩; refine ⟨rfl, ?_⟩; conv => whnf)
    | (refine br_intro (fun hb => ?_) (fun hb => ?_) <;> (try simp only [decide_eq_true_eq, decide_eq_false_iff_not, Bool.not_eq_true', Bool.not_eq_false', Bool.and_eq_true, Bool.or_eq_true, beq_iff_eq, not_and, Int.not_le, Int.not_lt, Int.toNat_natCast, beq_eq_false_iff_ne, ne_eq, eq_self, not_true_eq_false, not_false_eq_true] at hb) <;> (conv => whnf))
    | omega
    | (refine And.intro ?_ ?_; ((try dsimp only); first | omega | (refine ⟨by omega, by omega, Int.le_trans (Int.mul_le_mul_of_nonneg_right (Int.ofNat_le.2 (Nat.le_of_ble_eq_true (rfl : Nat.ble _ 1024 = true))) (by omega)) (by omega), by omega⟩) | (refine Nat.le_trans (Nat.mul_le_mul_left _ (Nat.le_of_ble_eq_true (rfl : Nat.ble _ 1024 = true))) ?_; omega) | (unfold inI64; omega) | (constructor <;> omega) | (simp only [inI64, List.length_cons, List.length_append, List.length_nil, List.length_set] at *; omega) | decide | (unfold inI64; decide)); conv => whnf)
    | omega | decide | assumption)
  all_goals first
    | (exfalso; have := hG0 (by omega); omega)
    | skip
  all_goals
    obtain ⟨hq0, hql, hqb⟩ : (E2 = 0 → (q2.map (·.2)).sum = ce) ∧ q2.length ≤ 10 ∧ ∀ p ∈ q2, p.1.length ≤ 8 ∧ 0 ≤ p.2 ∧ p.2 ≤ 1000000000 := by
      by_cases q : E2 = 0
      · obtain ⟨h1, h2, h3⟩ := heq q
        exact ⟨fun _ => h1, h2, h3⟩
      · rw [hne q]; exact ⟨fun p => absurd p q, by simp, by simp⟩
    have hqn : ∀ x ∈ q2.map (·.2), 0 ≤ x := fun x hx => by obtain ⟨p, hp, rfl⟩ := List.mem_map.1 hx; exact (hqb p hp).2.1
    have hqs := sum_bd9 (l := q2.map (·.2)) (k := 10) (by simpa using hql) (fun x hx => by obtain ⟨p, hp, rfl⟩ := List.mem_map.1 hx; exact (hqb p hp).2)
    refine LoopX.rule hT (C := []) (ι := Nat) (fun i => i ≤ q2.length) (fun i => mkSt [(3, .ptr 25 0), (4, .d (.int .i64 ce)), (8, .d (.int .i64 ((q2.map (·.2)).take i).sum)), (11, .d (pairs q2)), (12, .d (.int .i64 E2)), (78, .d (pairs q2)), (79, .d (.int .i64 q2.length)), (80, .d (.int .i64 i))] [(25, strm n L c)]) (fun i => q2.length - i) 0 (by omega) (by refine Entails.mk' [(25, 25)] rfl rfl ?_ ?_ <;> repeat' (first | exact True.intro | exact SV.le_refl _ | exact Res.le_refl _ | exact SV.le_int (by omega) | exact SV.le_any _ | refine And.intro ?_ ?_)) ?_
    rintro i p2
    have e2 : (i : Int).toNat = i := Int.toNat_natCast i
    have ht := take_bd hqn i
    by_cases hi : i < q2.length
    · have hst := sum_takeD (l := q2.map (·.2)) (i := i) (by simpa using hi)
      have hgm := hqb _ (getD_mem (x := ([], 0)) hi)
      rw [map_getD2] at hst
      rw [← e2] at hgm
      conv => whnf
      repeat' (first
        | (refine br_intro (fun hb => ?_) (fun hb => ?_) <;> (try simp only [decide_eq_true_eq, decide_eq_false_iff_not, Bool.not_eq_true', Bool.not_eq_false', Bool.and_eq_true, Bool.or_eq_true, beq_iff_eq, not_and, Int.not_le, Int.not_lt, Int.toNat_natCast, beq_eq_false_iff_ne, ne_eq, eq_self, not_true_eq_false, not_false_eq_true] at hb) <;> (conv => whnf))
        | omega
        | (refine And.intro ?_ ?_; ((try dsimp only); first | omega | (refine ⟨by omega, by omega, Int.le_trans (Int.mul_le_mul_of_nonneg_right (Int.ofNat_le.2 (Nat.le_of_ble_eq_true (rfl : Nat.ble _ 1024 = true))) (by omega)) (by omega), by omega⟩) | (refine Nat.le_trans (Nat.mul_le_mul_left _ (Nat.le_of_ble_eq_true (rfl : Nat.ble _ 1024 = true))) ?_; omega) | (unfold inI64; omega) | (constructor <;> omega) | (simp only [inI64, List.length_cons, List.length_append, List.length_nil, List.length_set] at *; omega) | decide | (unfold inI64; decide)); conv => whnf)
        | omega | decide | assumption)
      refine ⟨i + 1, by omega, by omega, Entails.mk' [(25, 25)] rfl rfl ⟨SV.le_refl _, SV.le_refl _, SV.le_int (by rw [hst, e2]), SV.le_refl _, SV.le_refl _, SV.le_refl _, SV.le_refl _, SV.le_refl _, trivial⟩ ⟨Res.le_refl _, trivial⟩⟩
    obtain rfl : i = q2.length := by omega
    rw [show (q2.map (·.2)).take q2.length = q2.map (·.2) from List.take_of_length_le (by simp)]
    conv => whnf
    repeat' (first
      | (refine CallX.of (s39 n L hL _ ?_ ?_) [(1000000, 25)] rfl ⟨SV.le_refl _, trivial⟩ ⟨Res.le_refl _, trivial⟩ rfl rfl ?_; rotate_right; rintro x rout ⟨⟨sl, ws, hs1, hs2, rfl⟩, ⟨c, c7, c8, rfl⟩⟩; refine ⟨rfl, ?_⟩; conv => whnf)
      | (refine br_intro (fun hb => ?_) (fun hb => ?_) <;> (try simp only [decide_eq_true_eq, decide_eq_false_iff_not, Bool.not_eq_true', Bool.not_eq_false', Bool.and_eq_true, Bool.or_eq_true, beq_iff_eq, not_and, Int.not_le, Int.not_lt, Int.toNat_natCast, beq_eq_false_iff_ne, ne_eq, eq_self, not_true_eq_false, not_false_eq_true] at hb) <;> (conv => whnf))
      | omega
      | (refine And.intro ?_ ?_; ((try dsimp only); first | omega | (refine ⟨by omega, by omega, Int.le_trans (Int.mul_le_mul_of_nonneg_right (Int.ofNat_le.2 (Nat.le_of_ble_eq_true (rfl : Nat.ble _ 1024 = true))) (by omega)) (by omega), by omega⟩) | (refine Nat.le_trans (Nat.mul_le_mul_left _ (Nat.le_of_ble_eq_true (rfl : Nat.ble _ 1024 = true))) ?_; omega) | (unfold inI64; omega) | (constructor <;> omega) | (simp only [inI64, List.length_cons, List.length_append, List.length_nil, List.length_set] at *; omega) | decide | (unfold inI64; decide)); conv => whnf)
      | omega | decide | assumption)
    all_goals first
      | (exfalso; have := hq0 (by omega); omega)
      | skip
  all_goals
    obtain ⟨N3, q3, hN3, hle3, hq3l, hq3b, hN3b, hq3s⟩ := ex_case q2 ws hql (fun p hp => (hqb p hp).2)
    have h40 := (s40 q2 ws (fun p hp => by have := (hqb p hp).1; omega) (by omega) (fun p hp => by have := hs2.2 p hp; omega) (by have := hs2.1; omega)).up (y' := .tup [.d (pairs q3), .d (.int .i64 (if exF q2 ws = 0 then exN q2 ws else 0)), .d (.int .i64 (exF q2 ws))]) (SV.le_tup ⟨hle3, SV.le_refl _, SV.le_refl _, trivial⟩)
    rw [hN3] at h40
    generalize exF q2 ws = F3 at h40 hq3s
    have hq3n : ∀ x ∈ q3.map (·.2), 0 ≤ x := fun x hx => by obtain ⟨p, hp, rfl⟩ := List.mem_map.1 hx; exact (hq3b p hp).1
    have hq3t := sum_bd9 (l := q3.map (·.2)) (k := 10) (by simpa using hq3l) (fun x hx => by obtain ⟨p, hp, rfl⟩ := List.mem_map.1 hx; exact hq3b p hp)
    repeat' (first
      | (refine CallX.exact (h40) rfl rfl ?_; rotate_right; conv => whnf)
      | (refine br_intro (fun hb => ?_) (fun hb => ?_) <;> (try simp only [decide_eq_true_eq, decide_eq_false_iff_not, Bool.not_eq_true', Bool.not_eq_false', Bool.and_eq_true, Bool.or_eq_true, beq_iff_eq, not_and, Int.not_le, Int.not_lt, Int.toNat_natCast, beq_eq_false_iff_ne, ne_eq, eq_self, not_true_eq_false, not_false_eq_true] at hb) <;> (conv => whnf))
      | omega
      | (refine And.intro ?_ ?_; ((try dsimp only); first | omega | (refine ⟨by omega, by omega, Int.le_trans (Int.mul_le_mul_of_nonneg_right (Int.ofNat_le.2 (Nat.le_of_ble_eq_true (rfl : Nat.ble _ 1024 = true))) (by omega)) (by omega), by omega⟩) | (refine Nat.le_trans (Nat.mul_le_mul_left _ (Nat.le_of_ble_eq_true (rfl : Nat.ble _ 1024 = true))) ?_; omega) | (unfold inI64; omega) | (constructor <;> omega) | (simp only [inI64, List.length_cons, List.length_append, List.length_nil, List.length_set] at *; omega) | decide | (unfold inI64; decide)); conv => whnf)
      | omega | decide | assumption)
    refine LoopX.rule hT (C := []) (ι := Nat) (fun i => i ≤ q3.length) (fun i => mkSt [(4, .d (.int .i64 ce)), (12, .d (.int .i64 E2)), (19, .d (.int .i64 F3)), (20, .d (.int .i64 (N3 + ((q3.map (·.2)).take i).sum))), (109, .d (pairs q3)), (110, .d (.int .i64 q3.length)), (111, .d (.int .i64 i))] []) (fun i => q3.length - i) 0 (by omega) (by refine Entails.mk' [] rfl rfl ?_ ?_ <;> repeat' (first | exact True.intro | exact SV.le_refl _ | exact Res.le_refl _ | (exact SV.le_int (by simp)) | exact SV.le_int (by omega) | exact SV.le_any _ | refine And.intro ?_ ?_)) ?_
    rintro i p3
    have e3 : (i : Int).toNat = i := Int.toNat_natCast i
    have ht := take_bd hq3n i
    by_cases hi : i < q3.length
    · have hst := sum_takeD (l := q3.map (·.2)) (i := i) (by simpa using hi)
      have hgm := hq3b _ (getD_mem (x := ([], 0)) hi)
      rw [map_getD2] at hst
      rw [← e3] at hgm
      conv => whnf
      repeat' (first
        | (refine br_intro (fun hb => ?_) (fun hb => ?_) <;> (try simp only [decide_eq_true_eq, decide_eq_false_iff_not, Bool.not_eq_true', Bool.not_eq_false', Bool.and_eq_true, Bool.or_eq_true, beq_iff_eq, not_and, Int.not_le, Int.not_lt, Int.toNat_natCast, beq_eq_false_iff_ne, ne_eq, eq_self, not_true_eq_false, not_false_eq_true] at hb) <;> (conv => whnf))
        | omega
        | (refine And.intro ?_ ?_; ((try dsimp only); first | omega | (refine ⟨by omega, by omega, Int.le_trans (Int.mul_le_mul_of_nonneg_right (Int.ofNat_le.2 (Nat.le_of_ble_eq_true (rfl : Nat.ble _ 1024 = true))) (by omega)) (by omega), by omega⟩) | (refine Nat.le_trans (Nat.mul_le_mul_left _ (Nat.le_of_ble_eq_true (rfl : Nat.ble _ 1024 = true))) ?_; omega) | (unfold inI64; omega) | (constructor <;> omega) | (simp only [inI64, List.length_cons, List.length_append, List.length_nil, List.length_set] at *; omega) | decide | (unfold inI64; decide)); conv => whnf)
        | omega | decide | assumption)
      refine ⟨i + 1, by omega, by omega, Entails.mk' [] rfl rfl ⟨SV.le_refl _, SV.le_refl _, SV.le_refl _, SV.le_int (by rw [hst, e3]; omega), SV.le_refl _, SV.le_refl _, SV.le_refl _, trivial⟩ trivial⟩
    obtain rfl : i = q3.length := by omega
    rw [show (q3.map (·.2)).take q3.length = q3.map (·.2) from List.take_of_length_le (by simp)]
    conv => whnf
    repeat' (first
      | (refine CallX.exact (sReady) rfl rfl ?_; rotate_right; conv => whnf)
      | (refine br_intro (fun hb => ?_) (fun hb => ?_) <;> (try simp only [decide_eq_true_eq, decide_eq_false_iff_not, Bool.not_eq_true', Bool.not_eq_false', Bool.and_eq_true, Bool.or_eq_true, beq_iff_eq, not_and, Int.not_le, Int.not_lt, Int.toNat_natCast, beq_eq_false_iff_ne, ne_eq, eq_self, not_true_eq_false, not_false_eq_true] at hb) <;> (conv => whnf))
      | omega
      | (refine And.intro ?_ ?_; ((try dsimp only); first | omega | (refine ⟨by omega, by omega, Int.le_trans (Int.mul_le_mul_of_nonneg_right (Int.ofNat_le.2 (Nat.le_of_ble_eq_true (rfl : Nat.ble _ 1024 = true))) (by omega)) (by omega), by omega⟩) | (refine Nat.le_trans (Nat.mul_le_mul_left _ (Nat.le_of_ble_eq_true (rfl : Nat.ble _ 1024 = true))) ?_; omega) | (unfold inI64; omega) | (constructor <;> omega) | (simp only [inI64, List.length_cons, List.length_append, List.length_nil, List.length_set] at *; omega) | decide | (unfold inI64; decide)); conv => whnf)
      | omega | decide | assumption)
    all_goals first
      | (exfalso; have h1 := hq0 (by omega); have h2 := hq3s (by omega); omega)
      | (refine .ret _ ?_
         conv => whnf
         refine ⟨[], ⟨?_, rfl⟩, trivial⟩
         conv => lhs; whnf
         all_goals rfl)
end Go.Proofs.YtnkdlkgannnfhaaGreatDoor
