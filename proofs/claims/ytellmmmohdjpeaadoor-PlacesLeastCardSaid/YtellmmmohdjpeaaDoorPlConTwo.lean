/- PlacesLeast is proved: for every input the law returns true, and its argument reads afterwards as it read before. Conditions: those of the given row alone. -/
import Derived.Test.YtellmmmohdjpeaaDoorPlConOne
import Derived.Shelf.Strings.SlTrimAscii
import Derived.Test.YtellmmmohdjpeaaDoorProg
import Derived.Test.YtellmmmohdjpeaaDoorPlEngTwo
set_option linter.unusedVariables false
set_option linter.unusedSimpArgs false
namespace Go.Proofs.YtellmmmohdjpeaaDoor
open Go Go.Eng
section
variable {α : Type} (cmp : α → α → Int)
theorem insR_perm (x : α) : ∀ l : List α, (insR cmp x l).Perm (x :: l) := by
  intro l
  induction l with
  | nil => exact .refl _
  | cons y r ih =>
    simp only [insR]
    split
    · exact (ih.cons y).trans (.swap x y r)
    · exact .refl _
theorem isortR_perm (l : List α) : (isortR cmp l).Perm l := by
  have : ∀ (l acc : List α), (l.foldl (fun acc x => insR cmp x acc) acc).Perm (l ++ acc) := by
    intro l
    induction l with
    | nil => intro acc; exact .refl _
    | cons x l ih =>
      intro acc
      rw [List.foldl_cons]
      refine (ih _).trans (((insR_perm cmp x acc).append_left l).trans ?_)
      exact List.perm_middle
  have h := this l []
  rw [List.append_nil] at h
  exact h
theorem isort_perm (l : List α) : (isort cmp l).Perm l := (List.reverse_perm _).trans (isortR_perm cmp l)
variable (R : α → α → Prop) (tr : ∀ a b c, R a b → R b c → R a c)
include tr in
theorem insR_pairwise (x : α) : ∀ l : List α, l.Pairwise (fun a b => R b a) → (∀ y ∈ l, (cmp x y < 0 → R x y) ∧ (¬ cmp x y < 0 → R y x)) → (insR cmp x l).Pairwise (fun a b => R b a) := by
  intro l
  induction l with
  | nil => intro _ _; simp [insR]
  | cons y r ih =>
    intro h hc
    have h' := List.pairwise_cons.1 h
    simp only [insR]
    split
    · rename_i hlt
      rw [List.pairwise_cons]
      refine ⟨fun z hz => ?_, ih h'.2 (fun z hz => hc z (by simp [hz]))⟩
      rcases (insR_mem cmp x z).1 hz with q | q
      · subst q; exact (hc y (by simp)).1 hlt
      · exact h'.1 z q
    · rename_i hlt
      have hyx := (hc y (by simp)).2 hlt
      rw [List.pairwise_cons]
      refine ⟨fun z hz => ?_, h⟩
      rcases List.mem_cons.1 hz with q | q
      · subst q; exact hyx
      · exact tr _ _ _ (h'.1 z q) hyx
include tr in
/-- A stable sort sorts: R: goes before. -/
theorem isort_pairwise : ∀ l : List α, l.Pairwise (fun y x => (cmp x y < 0 → R x y) ∧ (¬ cmp x y < 0 → R y x)) → (isort cmp l).Pairwise R := by
  intro l h
  unfold isort
  rw [List.pairwise_reverse]
  have : ∀ n, n ≤ l.length → (isortR cmp (l.take n)).Pairwise (fun a b => R b a) := by
    intro n
    induction n with
    | zero => intro _; simp [isortR]
    | succ n ih =>
      intro hn
      rw [take_snoc hn, isortR_snoc]
      refine insR_pairwise cmp R tr _ _ (ih (by omega)) (fun y hy => ?_)
      have hy := (isortR_mem cmp _).1 hy
      have hp : (l.take (n + 1)).Pairwise (fun y x => (cmp x y < 0 → R x y) ∧ (¬ cmp x y < 0 → R y x)) := h.sublist (List.take_sublist _ _)
      rw [take_snoc hn, List.pairwise_append] at hp
      exact hp.2.2 y hy _ (by simp)
  have := this l.length (Nat.le_refl _)
  rwa [List.take_length] at this
/-- Where something stands. -/
theorem mem_take_of_pairwise (R : α → α → Bool) (ir : ∀ a, R a a = false) (asy : ∀ a b, R a b = true → R b a = false) {S : List α} (h : S.Pairwise (fun a b => R a b = true)) {k : α} (hk : k ∈ S) (m : Nat) : k ∈ S.take m ↔ S.countP (fun a => R a k) < m := by
  obtain ⟨A, B, rfl⟩ := List.append_of_mem hk
  rw [List.pairwise_append, List.pairwise_cons] at h
  obtain ⟨h1, ⟨h2, _⟩, h3⟩ := h
  have hA : A.countP (fun a => R a k) = A.length := List.countP_eq_length.2 fun a ha => h3 a ha k (by simp)
  have hB : B.countP (fun a => R a k) = 0 := List.countP_eq_zero.2 fun b hb => by simp [asy _ _ (h2 b hb)]
  have hkA : k ∉ A := fun q => by have := h3 k q k (by simp); rw [ir] at this; cases this
  rw [List.countP_append, List.countP_cons, hA, hB, ir]
  simp only [Nat.zero_add, Bool.false_eq_true, if_false, Nat.add_zero]
  constructor
  · intro hm
    refine Nat.lt_of_not_le fun q => ?_
    rw [List.take_append_of_le_length q] at hm
    exact hkA (List.mem_of_mem_take hm)
  · intro hm
    rw [List.take_append]
    have : m - A.length = (m - A.length - 1) + 1 := by omega
    rw [this]
    simp
end
theorem incL_get (js : List Int) (hn : js.Nodup) : ∀ P : List Int, (∀ j ∈ js, 0 ≤ j ∧ j.toNat < P.length) → (incL P js).length = P.length ∧ ∀ k : Nat, k < P.length → (incL P js).getD k 0 = P.getD k 0 + if (k : Int) ∈ js then 1 else 0 := by
  induction js with
  | nil => intro P _; simp [incL]
  | cons j js ih =>
    intro P h
    rw [List.nodup_cons] at hn
    have hj := h j (by simp)
    have e : incL P (j :: js) = incL (P.set j.toNat (P.getD j.toNat 0 + 1)) js := rfl
    obtain ⟨h1, h2⟩ := ih hn.2 (P.set j.toNat (P.getD j.toNat 0 + 1)) (fun i hi => by rw [List.length_set]; exact h i (by simp [hi]))
    rw [List.length_set] at h1 h2
    rw [e]
    refine ⟨h1, fun k hk => ?_⟩
    rw [h2 k hk]
    by_cases q : (k : Int) = j
    · subst q
      have : (k : Int) ∉ js := hn.1
      simp [this, hk]
    · have q2 : ¬ j.toNat = k := by omega
      simp [List.getD_eq_getElem?_getD, List.getElem?_set, q2, q]
end Go.Proofs.YtellmmmohdjpeaaDoor
namespace Go.Proofs.YtellmmmohdjpeaaDoor
open Go Go.Eng
def remI (c : Int) (w : List Int) (p : Int) : Int := (c * w.getD p.toNat 0).tmod w.sum
def befI (c : Int) (w : List Int) (a b : Int) : Bool := decide (remI c w b < remI c w a) || (decide (remI c w a = remI c w b) && decide (a < b))
theorem befI_iff {c : Int} {w : List Int} {a b : Int} : befI c w a b = true ↔ (remI c w b < remI c w a ∨ (remI c w a = remI c w b ∧ a < b)) := by
  simp [befI]
theorem aheadG_count (c : Int) (w : List Int) (k m : Nat) : aheadG c w k m = ((List.range m).countP (fun j : Nat => befI c w (j : Int) (k : Int)) : Int) := by
  induction m with
  | zero => simp [aheadG]
  | succ m ih =>
    rw [aheadG_succ, ih, List.range_succ, List.countP_append, List.countP_singleton]
    have : aheadB c w k m = befI c w (m : Int) (k : Int) := by simp [aheadB, befI, remI, remG]
    rw [this]
    split <;> simp
theorem splitG_eq (c : Int) (w : List Int) (hl : 0 ≤ leftL c (partG c w) w.length ∧ leftL c (partG c w) w.length ≤ w.length) : splitG c w = rngL (splitE c w) w.length := by
  have hF : fillL (fun j => (j : Int)) w.length w.length = (List.range w.length).map (fun j : Nat => (j : Int)) := by
    unfold fillL
    exact List.map_congr_left fun j hj => by rw [if_pos (List.mem_range.1 hj)]
  have hperm : (orderG c w).Perm ((List.range w.length).map (fun j : Nat => (j : Int))) := by rw [← hF]; exact isort_perm _ _
  have hpw : (orderG c w).Pairwise (fun a b => befI c w a b = true) := by
    unfold orderG
    rw [hF]
    refine isort_pairwise _ _ (fun a b d h1 h2 => ?_) _ ?_
    · rw [befI_iff] at h1 h2 ⊢; omega
    · rw [List.pairwise_map]
      refine List.pairwise_lt_range.imp (fun {a b} hab => ?_)
      rw [befI_iff, befI_iff]
      have : cmpG c w (b : Int) (a : Int) = remI c w a - remI c w b := rfl
      rw [this]
      constructor <;> intro _ <;> omega
  have hnd : (orderG c w).Nodup := hperm.nodup_iff.2 (by
    rw [List.nodup_iff_pairwise_ne, List.pairwise_map]
    exact List.pairwise_lt_range.imp (fun {a b} hab => by omega))
  have hmem : ∀ j ∈ (orderG c w).take (leftL c (partG c w) w.length).toNat, 0 ≤ j ∧ j.toNat < (fillL (partG c w) w.length w.length).length := fun j hj => by
    have := hperm.mem_iff.1 (List.mem_of_mem_take hj)
    simp only [List.mem_map, List.mem_range] at this
    obtain ⟨i, hi, rfl⟩ := this
    rw [fillL_length]; omega
  obtain ⟨g1, g2⟩ := incL_get _ (hnd.sublist (List.take_sublist _ _)) _ hmem
  rw [fillL_length] at g1 g2
  apply List.ext_getElem
  · rw [rngL_length]; exact g1
  · intro k h1 h2
    have hk : k < w.length := by rw [rngL_length] at h2; exact h2
    have e1 : (splitG c w)[k] = (splitG c w).getD k 0 := by rw [List.getD_eq_getElem?_getD]; simp [h1]
    rw [e1]
    unfold splitG
    rw [g2 k hk]
    have e2 : (fillL (partG c w) w.length w.length).getD k 0 = partG c w k := by
      rw [List.getD_eq_getElem?_getD]; simp [fillL, hk]
    have e3 : (rngL (splitE c w) w.length)[k] = splitE c w k := by simp [rngL]
    rw [e2, e3, splitE]
    congr 1
    have hkm : (k : Int) ∈ orderG c w := hperm.mem_iff.2 (by simp only [List.mem_map, List.mem_range]; exact ⟨k, hk, rfl⟩)
    have hpos := mem_take_of_pairwise (befI c w) (fun a => by simp [befI]) (fun a b h => by
      cases hq : befI c w b a with
      | false => rfl
      | true => rw [befI_iff] at h hq; omega) hpw hkm (leftL c (partG c w) w.length).toNat
    have hc : (orderG c w).countP (fun a => befI c w a (k : Int)) = (List.range w.length).countP (fun j : Nat => befI c w (j : Int) (k : Int)) := by
      rw [hperm.countP_eq, List.countP_map]; rfl
    have ha := aheadG_count c w k w.length
    rw [hc] at hpos
    by_cases q : aheadG c w k w.length < leftL c (partG c w) w.length
    · rw [if_pos q, if_pos (hpos.2 (by omega))]
    · rw [if_neg q, if_neg (fun h => q (by have := hpos.1 h; omega))]
end Go.Proofs.YtellmmmohdjpeaaDoor
set_option maxRecDepth 20000
namespace Go.Proofs.YtellmmmohdjpeaaDoor
open Go Go.Eng
def keyCh (i : Nat) (c : UInt8) : Bool := (decide (97 ≤ c.toNat) && decide (c.toNat ≤ 122)) || (!decide (i = 0) && ((decide (48 ≤ c.toNat) && decide (c.toNat ≤ 57)) || decide (c.toNat = 45) || decide (c.toNat = 95)))
def isKeyB (s : List UInt8) : Bool := (List.range s.length).all (fun i => keyCh i (s.getD i 0)) && !s.isEmpty && decide (s.length ≤ 40)
theorem keyCh_iff {i : Nat} {c : UInt8} : keyCh i c = true ↔ ((97 ≤ (c.toNat : Int) ∧ (c.toNat : Int) ≤ 122) ∨ ((i : Int) ≠ 0 ∧ ((48 ≤ (c.toNat : Int) ∧ (c.toNat : Int) ≤ 57) ∨ (c.toNat : Int) = 45 ∨ (c.toNat : Int) = 95))) := by
  simp only [keyCh, Bool.or_eq_true, Bool.and_eq_true, decide_eq_true_eq, Bool.not_eq_true', decide_eq_false_iff_not]
  omega
-- word.IsKey
theorem s108 (s : List UInt8) (hl : s.length ≤ 2^40) : FSpec Tryd.prog 108 [.d (.str s)] [] (fun x r => x = .d (.bool (isKeyB s)) ∧ r = []) := by
  refine spec_of hT (C := []) Tryd.func108 rfl Tryd.call108 rfl rfl rfl ?_
  conv => whnf
  refine LoopX.rule hT (C := []) (ι := Nat) (fun i => i ≤ s.length ∧ ∀ j, j < i → keyCh j (s.getD j 0) = true) (fun i => mkSt [(0, .d (.str s)), (7, .d (.int .i64 s.length)), (8, .d (.int .i64 i))] []) (fun i => s.length - i) 0 ⟨by omega, by omega⟩ ?_ ?_
  · exact Entails.mk' [] rfl rfl ⟨SV.le_refl _, SV.le_refl _, SV.le_refl _, trivial⟩ trivial
  rintro i ⟨p1, p2⟩
  conv => whnf
  refine br_intro (fun h => ?_) (fun h => ?_)
  · simp only [decide_eq_true_eq] at h
    have hi : i < s.length := by omega
    have e1 : (i : Int).toNat = i := Int.toNat_natCast i
    conv => whnf
    repeat (refine And.intro (by (try unfold inI64); (try dsimp only); (try simp only [e1, List.length_cons, List.length_append, List.length_singleton, List.length_nil]); omega) ?_; conv => whnf)
    have hbad : keyCh i (s.getD i 0) = false → isKeyB s = false := fun h => by
      have : (List.range s.length).all (fun i => keyCh i (s.getD i 0)) = false := by
        rw [List.all_eq_false]; exact ⟨i, List.mem_range.2 hi, by rw [h]; simp⟩
      simp only [isKeyB, this, Bool.false_and]
    have hgood : keyCh i (s.getD i 0) = true → ∀ j, j < i + 1 → keyCh j (s.getD j 0) = true := fun h j hj => by
      rcases Nat.lt_or_ge j i with q | q
      · exact p2 j q
      · have : j = i := by omega
        subst this; exact h
    repeat' (refine br_intro (fun _ => ?_) (fun _ => ?_) <;> (conv => whnf))
    all_goals first
      | (refine And.intro (by unfold inI64; omega) ?_
         conv => whnf
         refine ⟨i + 1, ⟨hi, hgood ?_⟩, by omega, Entails.mk' [] rfl rfl ⟨SV.le_refl _, SV.le_refl _, SV.le_refl _, trivial⟩ trivial⟩
         rw [keyCh_iff]
         simp only [decide_eq_true_eq, decide_eq_false_iff_not, Bool.not_eq_true', Bool.not_eq_false', e1] at *
         omega)
      | (refine .ret _ ?_
         conv => whnf
         refine ⟨[], ⟨?_, rfl⟩, trivial⟩
         conv => lhs; whnf
         rw [hbad]
         cases hq : keyCh i (s.getD i 0) with
         | false => rfl
         | true =>
           rw [keyCh_iff] at hq
           simp only [decide_eq_true_eq, decide_eq_false_iff_not, Bool.not_eq_true', Bool.not_eq_false', e1] at *
           omega)
      | skip
  simp only [decide_eq_false_iff_not] at h
  have e1 : i = s.length := by omega
  subst e1
  have hall : (List.range s.length).all (fun i => keyCh i (s.getD i 0)) = true := by
    rw [List.all_eq_true]; intro j hj; exact p2 j (List.mem_range.1 hj)
  conv => whnf
  repeat' (refine br_intro (fun _ => ?_) (fun _ => ?_) <;> (conv => whnf))
  all_goals (refine .ret _ ?_; conv => whnf)
  all_goals (refine ⟨[], ⟨?_, rfl⟩, trivial⟩; conv => lhs; whnf)
  · rename_i hq
    have : s.isEmpty = false := by
      cases s with
      | nil => exact absurd hq (by decide)
      | cons x l => rfl
    unfold isKeyB
    rw [hall, this]
    simp
    omega
  · rename_i hq
    have : s.isEmpty = true := by
      cases s with
      | nil => rfl
      | cons x l => exact absurd hq (by simp)
    unfold isKeyB
    rw [hall, this]
    rfl
end Go.Proofs.YtellmmmohdjpeaaDoor
set_option maxRecDepth 20000
namespace Go.Proofs.YtellmmmohdjpeaaDoor
open Go Go.Eng
abbrev Pair := List UInt8 × Int
def pF : Pair → List DV := fun p => [.str p.1, .int .i64 p.2]
abbrev pairs (l : List Pair) : DV := seqD 2 pF ([], 0) l
def strLe (a b : List UInt8) : Bool := Op.bytesLess a b || a == b
/-- The first fault of shares, at or after a place. -/
def shareE (l : List Pair) (i : Nat) : Int :=
  let x := l.getD i ([], 0)
  if x.1 ≠ [] ∧ isKeyB x.1 = false then 5 else if 0 < i ∧ strLe x.1 (l.getD (i - 1) ([], 0)).1 = true then 7 else if ¬ (0 ≤ x.2 ∧ x.2 ≤ 1000000000) then 1 else 0
def firstAt (f : Nat → Int) : Nat → Int
  | 0 => 0
  | n + 1 => if firstAt f n = 0 then f n else firstAt f n
theorem firstAt_zero {f : Nat → Int} : ∀ {n : Nat}, (∀ j, j < n → f j = 0) → firstAt f n = 0 := by
  intro n
  induction n with
  | zero => intro _; rfl
  | succ n ih => intro h; rw [firstAt, if_pos (ih fun j hj => h j (by omega))]; exact h n (by omega)
theorem firstAt_eq {f : Nat → Int} {n i : Nat} {e : Int} (hi : i < n) (h : ∀ j, j < i → f j = 0) (h1 : e ≠ 0) (h2 : f i = e) : firstAt f n = e := by
  induction n with
  | zero => omega
  | succ n ih =>
    rw [firstAt]
    by_cases q : i < n
    · rw [ih q, if_neg h1]
    · have : i = n := by omega
      subst this
      rw [if_pos (firstAt_zero h)]; exact h2
def sharesE (l : List Pair) : Int := if 50 < l.length then 2 else firstAt (shareE l) l.length
-- mark.checkShares
theorem s121 (l : List Pair) (hk : ∀ p ∈ l, p.1.length ≤ 2^40) (hl : l.length ≤ 2^40) : FSpec Tryd.prog 121 [.d (pairs l)] [] (fun x r => x = .d (.int .i64 (sharesE l)) ∧ r = []) := by
  refine spec_of hT (C := []) Tryd.func121 rfl Tryd.call121 rfl rfl rfl ?_
  conv => whnf
  refine br_intro (fun h0 => ?_) (fun h0 => ?_)
  · simp at h0
    conv => whnf
    refine .ret _ ?_
    conv => whnf
    refine ⟨[], ⟨?_, rfl⟩, trivial⟩
    conv => lhs; whnf
    unfold sharesE; rw [if_pos (by omega)]
  simp at h0
  conv => whnf
  refine LoopX.rule hT (C := []) (ι := Nat) (fun i => i ≤ l.length ∧ ∀ j, j < i → shareE l j = 0) (fun i => mkSt [(0, .d (pairs l)), (8, .d (pairs l)), (9, .d (.int .i64 l.length)), (10, .d (.int .i64 i))] []) (fun i => l.length - i) 0 ⟨by omega, by omega⟩ ?_ ?_
  · exact Entails.mk' [] rfl rfl ⟨SV.le_refl _, SV.le_refl _, SV.le_refl _, SV.le_refl _, trivial⟩ trivial
  rintro i ⟨p1, p2⟩
  conv => whnf
  refine br_intro (fun h => ?_) (fun h => ?_)
  · simp only [decide_eq_true_eq] at h
    have hi : i < l.length := by omega
    have e1 : (i : Int).toNat = i := Int.toNat_natCast i
    conv => whnf
    repeat (refine And.intro (by (try unfold inI64); (try dsimp only); (try simp only [e1, List.length_cons, List.length_append, List.length_singleton, List.length_nil]); omega) ?_; conv => whnf)
    have hx := getD_mem (x := (([], 0) : Pair)) hi
    have hbad : ∀ e : Int, e ≠ 0 → shareE l i = e → sharesE l = e := fun e h1 h2 => by
      unfold sharesE; rw [if_neg (by omega)]
      exact firstAt_eq hi p2 h1 h2
    have hgood : shareE l i = 0 → ∀ j, j < i + 1 → shareE l j = 0 := fun h j hj => by
      rcases Nat.lt_or_ge j i with q | q
      · exact p2 j q
      · have : j = i := by omega
        subst this; exact h
    have hdef : shareE l i = if (l.getD i ([], 0)).1 ≠ [] ∧ isKeyB (l.getD i ([], 0)).1 = false then 5 else if 0 < i ∧ strLe (l.getD i ([], 0)).1 (l.getD (i - 1) ([], 0)).1 = true then 7 else if ¬ (0 ≤ (l.getD i ([], 0)).2 ∧ (l.getD i ([], 0)).2 ≤ 1000000000) then 1 else 0 := rfl
    refine br_intro (fun g1 => ?_) (fun g1 => ?_)
    · have k1 : (l.getD i ([], 0)).1 ≠ [] := fun q => by
        have g1 : (!((l.getD (i : Int).toNat ([], 0)).1 == [])) = true := g1
        rw [e1, q] at g1; simp at g1
      conv => whnf
      refine CallX.pure (s108 _ (hk _ hx)) ⟨SV.le_refl _, trivial⟩ rfl ?_
      conv => whnf
      refine br_intro (fun g2 => ?_) (fun g2 => ?_)
      · conv => whnf
        refine .ret _ ?_
        conv => whnf
        refine ⟨[], ⟨?_, rfl⟩, trivial⟩
        conv => lhs; whnf
        rw [hbad 5 (by omega)]
        rw [hdef, if_pos ⟨k1, by simpa using g2⟩]
      · have hn5 : ¬ ((l.getD i ([], 0)).1 ≠ [] ∧ isKeyB (l.getD i ([], 0)).1 = false) := fun q => by rw [q.2] at g2; simp at g2
        conv => whnf
        refine RegX.rule hT rfl [] [(0, []), (1, []), (2, []), (3, []), (4, []), (5, [3, 4]), (6, [3, 4, 5]), (7, [3, 4, 5]), (8, [3, 4]), (9, [3, 4]), (10, [3, 4]), (11, []), (12, []), (13, [])] (by decide +kernel) ?_
        conv => whnf
        refine br_intro (fun g3 => ?_) (fun g3 => ?_)
        · conv => whnf
          have g3 : (0 : Int) < i := by simpa using g3
          repeat (refine And.intro (by (try unfold inI64); (try dsimp only); (try simp only [e1, List.length_cons, List.length_append, List.length_singleton, List.length_nil]); omega) ?_; conv => whnf)
          have e2 : ((i : Int) - 1).toNat = i - 1 := by omega
          refine br_intro (fun g5 => ?_) (fun g5 => ?_)
          · conv => whnf
            refine .ret _ ?_
            conv => whnf
            refine ⟨[], ⟨?_, rfl⟩, trivial⟩
            conv => lhs; whnf
            rw [hbad 7 (by omega)]
            have g5 : strLe (l.getD i ([], 0)).1 (l.getD (i - 1) ([], 0)).1 = true := by rw [e1, e2] at g5; exact g5
            rw [hdef, if_neg hn5, if_pos ⟨by omega, g5⟩]
          · conv => whnf
            have hn7 : ¬ (0 < i ∧ strLe (l.getD i ([], 0)).1 (l.getD (i - 1) ([], 0)).1 = true) := fun q => by rw [e1, e2] at g5; exact absurd (q.2.symm.trans g5) (by simp)
            refine CallX.pure (s119 _ _ _) ⟨SV.le_refl _, SV.le_refl _, SV.le_refl _, trivial⟩ rfl ?_
            conv => whnf
            refine br_intro (fun g4 => ?_) (fun g4 => ?_)
            · conv => whnf
              refine .ret _ ?_
              conv => whnf
              refine ⟨[], ⟨?_, rfl⟩, trivial⟩
              conv => lhs; whnf
              rw [hbad 1 (by omega)]
              simp only [e1, Bool.not_eq_true', decide_eq_false_iff_not] at g4
              rw [hdef, if_neg hn5, if_neg hn7, if_pos g4]
            · conv => whnf
              simp only [e1, Bool.not_eq_false', decide_eq_true_eq] at g4
              refine And.intro (by unfold inI64; omega) ?_
              conv => whnf
              refine ⟨i + 1, ⟨hi, hgood (by rw [hdef, if_neg hn5, if_neg hn7, if_neg (fun q => q g4)])⟩, by omega, Entails.mk' [] rfl rfl ⟨SV.le_refl _, SV.le_refl _, SV.le_refl _, SV.le_refl _, trivial⟩ trivial⟩
        · conv => whnf
          have hn7 : ¬ (0 < i ∧ strLe (l.getD i ([], 0)).1 (l.getD (i - 1) ([], 0)).1 = true) := fun q => by simp at g3; omega
          refine CallX.pure (s119 _ _ _) ⟨SV.le_refl _, SV.le_refl _, SV.le_refl _, trivial⟩ rfl ?_
          conv => whnf
          refine br_intro (fun g4 => ?_) (fun g4 => ?_)
          · conv => whnf
            refine .ret _ ?_
            conv => whnf
            refine ⟨[], ⟨?_, rfl⟩, trivial⟩
            conv => lhs; whnf
            rw [hbad 1 (by omega)]
            simp only [e1, Bool.not_eq_true', decide_eq_false_iff_not] at g4
            rw [hdef, if_neg hn5, if_neg hn7, if_pos g4]
          · conv => whnf
            simp only [e1, Bool.not_eq_false', decide_eq_true_eq] at g4
            refine And.intro (by unfold inI64; omega) ?_
            conv => whnf
            refine ⟨i + 1, ⟨hi, hgood (by rw [hdef, if_neg hn5, if_neg hn7, if_neg (fun q => q g4)])⟩, by omega, Entails.mk' [] rfl rfl ⟨SV.le_refl _, SV.le_refl _, SV.le_refl _, SV.le_refl _, trivial⟩ trivial⟩
    · have hn5 : ¬ ((l.getD i ([], 0)).1 ≠ [] ∧ isKeyB (l.getD i ([], 0)).1 = false) := fun q => by
        have g1 : (!((l.getD (i : Int).toNat ([], 0)).1 == [])) = false := g1
        rw [e1] at g1
        simp at g1
        exact q.1 (by simpa using g1)
      conv => whnf
      refine RegX.rule hT rfl [] [(0, []), (1, []), (2, []), (3, []), (4, []), (5, [3, 4]), (6, [3, 4, 5]), (7, [3, 4, 5]), (8, [3, 4]), (9, [3, 4]), (10, [3, 4]), (11, []), (12, []), (13, [])] (by decide +kernel) ?_
      conv => whnf
      refine br_intro (fun g3 => ?_) (fun g3 => ?_)
      · conv => whnf
        have g3 : (0 : Int) < i := by simpa using g3
        repeat (refine And.intro (by (try unfold inI64); (try dsimp only); (try simp only [e1, List.length_cons, List.length_append, List.length_singleton, List.length_nil]); omega) ?_; conv => whnf)
        have e2 : ((i : Int) - 1).toNat = i - 1 := by omega
        refine br_intro (fun g5 => ?_) (fun g5 => ?_)
        · conv => whnf
          refine .ret _ ?_
          conv => whnf
          refine ⟨[], ⟨?_, rfl⟩, trivial⟩
          conv => lhs; whnf
          rw [hbad 7 (by omega)]
          have g5 : strLe (l.getD i ([], 0)).1 (l.getD (i - 1) ([], 0)).1 = true := by rw [e1, e2] at g5; exact g5
          rw [hdef, if_neg hn5, if_pos ⟨by omega, g5⟩]
        · conv => whnf
          have hn7 : ¬ (0 < i ∧ strLe (l.getD i ([], 0)).1 (l.getD (i - 1) ([], 0)).1 = true) := fun q => by rw [e1, e2] at g5; exact absurd (q.2.symm.trans g5) (by simp)
          refine CallX.pure (s119 _ _ _) ⟨SV.le_refl _, SV.le_refl _, SV.le_refl _, trivial⟩ rfl ?_
          conv => whnf
          refine br_intro (fun g4 => ?_) (fun g4 => ?_)
          · conv => whnf
            refine .ret _ ?_
            conv => whnf
            refine ⟨[], ⟨?_, rfl⟩, trivial⟩
            conv => lhs; whnf
            rw [hbad 1 (by omega)]
            simp only [e1, Bool.not_eq_true', decide_eq_false_iff_not] at g4
            rw [hdef, if_neg hn5, if_neg hn7, if_pos g4]
          · conv => whnf
            simp only [e1, Bool.not_eq_false', decide_eq_true_eq] at g4
            refine And.intro (by unfold inI64; omega) ?_
            conv => whnf
            refine ⟨i + 1, ⟨hi, hgood (by rw [hdef, if_neg hn5, if_neg hn7, if_neg (fun q => q g4)])⟩, by omega, Entails.mk' [] rfl rfl ⟨SV.le_refl _, SV.le_refl _, SV.le_refl _, SV.le_refl _, trivial⟩ trivial⟩
      · conv => whnf
        have hn7 : ¬ (0 < i ∧ strLe (l.getD i ([], 0)).1 (l.getD (i - 1) ([], 0)).1 = true) := fun q => by simp at g3; omega
        refine CallX.pure (s119 _ _ _) ⟨SV.le_refl _, SV.le_refl _, SV.le_refl _, trivial⟩ rfl ?_
        conv => whnf
        refine br_intro (fun g4 => ?_) (fun g4 => ?_)
        · conv => whnf
          refine .ret _ ?_
          conv => whnf
          refine ⟨[], ⟨?_, rfl⟩, trivial⟩
          conv => lhs; whnf
          rw [hbad 1 (by omega)]
          simp only [e1, Bool.not_eq_true', decide_eq_false_iff_not] at g4
          rw [hdef, if_neg hn5, if_neg hn7, if_pos g4]
        · conv => whnf
          simp only [e1, Bool.not_eq_false', decide_eq_true_eq] at g4
          refine And.intro (by unfold inI64; omega) ?_
          conv => whnf
          refine ⟨i + 1, ⟨hi, hgood (by rw [hdef, if_neg hn5, if_neg hn7, if_neg (fun q => q g4)])⟩, by omega, Entails.mk' [] rfl rfl ⟨SV.le_refl _, SV.le_refl _, SV.le_refl _, SV.le_refl _, trivial⟩ trivial⟩
  simp only [decide_eq_false_iff_not] at h
  have e1 : i = l.length := by omega
  subst e1
  conv => whnf
  refine .ret _ ?_
  conv => whnf
  refine ⟨[], ⟨?_, rfl⟩, trivial⟩
  conv => lhs; whnf
  unfold sharesE; rw [if_neg (by omega), firstAt_zero p2]
end Go.Proofs.YtellmmmohdjpeaaDoor
namespace Go.Proofs
open Go.Shelf
def Tryd.lays160_ren : Go.Shelf.Ren := ⟨fun | 160 => 162 | 232 => 198 | 231 => 197 | 227 => 199 | 234 => 201 | 233 => 200 | 236 => 203 | 235 => 202 | 228 => 224 | 271 => 227 | 151 => 226 | 197 => 225 | 120 => 239 | 152 => 238 | 260 => 237 | 137 => 243 | 119 => 244 | 224 => 245 | 225 => 246 | 217 => 248 | 266 => 249 | n => n, fun | 9 => 9 | 4 => 4 | 3 => 3 | 5 => 5 | 117 => 292 | 116 => 291 | 0 => 0 | 124 => 295 | 21 => 21 | 105 => 313 | 46 => 284 | 119 => 327 | 139 => 330 | 138 => 329 | n => n, fun | 3 => 1 | 4 => 2 | n => n⟩
theorem Tryd.lays160 : Go.Proofs.Lays.n160 Tryd.prog Tryd.lays160_ren := {
  mixed := by kernel_rfl
  f119 := Tryd.func244.trans (congrArg some (by kernel_rfl))
  f120 := Tryd.func239.trans (congrArg some (by kernel_rfl))
  f137 := Tryd.func243.trans (congrArg some (by kernel_rfl))
  f151 := Tryd.func226.trans (congrArg some (by kernel_rfl))
  f152 := Tryd.func238.trans (congrArg some (by kernel_rfl))
  f160 := Tryd.func162.trans (congrArg some (by kernel_rfl))
  f197 := Tryd.func225.trans (congrArg some (by kernel_rfl))
  f217 := Tryd.func248.trans (congrArg some (by kernel_rfl))
  f224 := Tryd.func245.trans (congrArg some (by kernel_rfl))
  f225 := Tryd.func246.trans (congrArg some (by kernel_rfl))
  f227 := Tryd.func199.trans (congrArg some (by kernel_rfl))
  f228 := Tryd.func224.trans (congrArg some (by kernel_rfl))
  f231 := Tryd.func197.trans (congrArg some (by kernel_rfl))
  f232 := Tryd.func198.trans (congrArg some (by kernel_rfl))
  f233 := Tryd.func200.trans (congrArg some (by kernel_rfl))
  f234 := Tryd.func201.trans (congrArg some (by kernel_rfl))
  f235 := Tryd.func202.trans (congrArg some (by kernel_rfl))
  f236 := Tryd.func203.trans (congrArg some (by kernel_rfl))
  f260 := Tryd.func237.trans (congrArg some (by kernel_rfl))
  f266 := Tryd.func249.trans (congrArg some (by kernel_rfl))
  f271 := Tryd.func227.trans (congrArg some (by kernel_rfl))
  t0 := Tryd.underlying0
  a0 := Tryd.isAgg0
  z0 := Tryd.sizeOf0
  v0 := Tryd.zeroValue0
  t3 := Tryd.underlying3
  a3 := Tryd.isAgg3
  z3 := Tryd.sizeOf3
  v3 := Tryd.zeroValue3
  t4 := Tryd.underlying4
  a4 := Tryd.isAgg4
  z4 := Tryd.sizeOf4
  v4 := Tryd.zeroValue4
  t5 := Tryd.underlying5
  a5 := Tryd.isAgg5
  z5 := Tryd.sizeOf5
  v5 := Tryd.zeroValue5
  t9 := Tryd.underlying9
  a9 := Tryd.isAgg9
  z9 := Tryd.sizeOf9
  v9 := Tryd.zeroValue9
  t21 := Tryd.underlying21
  a21 := Tryd.isAgg21
  z21 := Tryd.sizeOf21
  v21 := Tryd.zeroValue21
  t46 := Tryd.underlying284
  a46 := Tryd.isAgg284
  z46 := Tryd.sizeOf284
  v46 := Tryd.zeroValue284
  t105 := Tryd.underlying313
  a105 := Tryd.isAgg313
  z105 := Tryd.sizeOf313
  v105 := Tryd.zeroValue313
  t116 := Tryd.underlying291
  a116 := Tryd.isAgg291
  z116 := Tryd.sizeOf291
  t117 := Tryd.underlying292
  a117 := Tryd.isAgg292
  z117 := Tryd.sizeOf292
  v117 := Tryd.zeroValue292
  t119 := Tryd.underlying327
  a119 := Tryd.isAgg327
  z119 := Tryd.sizeOf327
  t124 := Tryd.underlying295
  a124 := Tryd.isAgg295
  z124 := Tryd.sizeOf295
  v124 := Tryd.zeroValue295
  t138 := Tryd.underlying329
  a138 := Tryd.isAgg329
  z138 := Tryd.sizeOf329
  v138 := Tryd.zeroValue329
  t139 := Tryd.underlying330
  a139 := Tryd.isAgg330
  z139 := Tryd.sizeOf330
  v139 := Tryd.zeroValue330
  g3 := by kernel_rfl
  g4 := by kernel_rfl }
end Go.Proofs
set_option maxRecDepth 20000
namespace Go.Proofs.YtellmmmohdjpeaaDoor
open Go Go.Eng Go.Shelf
-- strings.Trim at a constant ASCII set
theorem s162 (s cs : List UInt8) (hl : s.length ≤ 2^40) (hc : cs.length ≤ 2^20) (ha : cs.all (fun b => decide (b.toNat < 128)) = true) : FSpec Tryd.prog 162 [.d (.str s), .d (.str cs)] [] (fun x r => x = .d (.str (Lib.trimS s cs)) ∧ r = []) := by
  refine FSpec.ofBelow Tryd.call162 (fun G β w vs _ hvl hd => ?_)
  match vs, hvl with
  | [u, v], _ =>
    have h0 := hd 0 _ u rfl rfl
    have h1 := hd 1 _ v rfl rfl
    cases h0 with | d _ _ h0 => cases h0 with | str _ =>
    cases h1 with | d _ _ h1 => cases h1 with | str _ =>
    refine ⟨.string ⟨(Lib.trimS s cs).toArray⟩, fun _ _ => .d _ _ (.str _), ?_⟩
    have hcon := Any.strings_Trim_laid Tryd.lays160 (by kernel_rfl) ⟨s.toArray⟩ ⟨cs.toArray⟩ w (by simp [ByteArray.size]; omega) (by simp [ByteArray.size]; omega) (ascii_of_all (by simpa using ha))
    have e : Tryd.lays160_ren.f 160 = 162 := rfl
    rw [e] at hcon
    simpa using hcon
theorem dropWhile_nil {p : UInt8 → Bool} {l : List UInt8} : l.dropWhile p = [] ↔ ∀ b ∈ l, p b = true := by
  induction l with
  | nil => simp
  | cons a l ih => by_cases h : p a = true <;> simp [List.dropWhile_cons, h, ih]
theorem trimS_nil {s cs : List UInt8} : Lib.trimS s cs = [] ↔ ∀ b ∈ s, cs.contains b = true := by
  unfold Lib.trimS Lib.trimLeftS Lib.trimRightS
  rw [dropWhile_nil]
  constructor
  · intro h b hb
    have h1 : s.reverse.dropWhile (cs.contains ·) = [] ∨ ¬ s.reverse.dropWhile (cs.contains ·) = [] := Classical.em _
    rcases h1 with h1 | h1
    · exact dropWhile_nil.1 h1 b (by simpa using hb)
    · obtain ⟨c, m, hc⟩ := List.exists_cons_of_ne_nil h1
      have h3 : cs.contains c = false := by
        have := List.head_dropWhile_not (cs.contains ·) (l := s.reverse) h1
        simp only [hc, List.head_cons] at this
        exact this
      have h4 := h c (by rw [List.mem_reverse, hc]; exact List.mem_cons_self)
      rw [h3] at h4; cases h4
  · intro h b hb
    rw [List.mem_reverse] at hb
    exact h b (by simpa using (List.dropWhile_sublist _).subset hb)
def onlyB (s cs : List UInt8) : Bool := s.all (cs.contains ·)
-- R.only
theorem s111 (s cs : List UInt8) (hl : s.length ≤ 2^40) (hc : cs.length ≤ 2^20) (ha : cs.all (fun b => decide (b.toNat < 128)) = true) : FSpec Tryd.prog 111 [.d (.str s), .d (.str cs)] [] (fun x r => x = .d (.bool (onlyB s cs)) ∧ r = []) := by
  refine spec_of hT (C := []) Tryd.func111 rfl Tryd.call111 rfl rfl rfl ?_
  conv => whnf
  refine CallX.pure (s162 _ _ hl hc ha) ⟨SV.le_refl _, SV.le_refl _, trivial⟩ rfl ?_
  conv => whnf
  refine .ret _ ?_
  conv => whnf
  refine ⟨[], ⟨?_, rfl⟩, trivial⟩
  show SV.d (.bool (Lib.trimS s cs == [])) = _
  congr 2
  rw [Bool.eq_iff_iff]
  simp only [beq_iff_eq, trimS_nil, onlyB, List.all_eq_true]

-- R.in
theorem s110 (a b c : Int) : FSpec Tryd.prog 110 [.d (.int .i64 a), .d (.int .i64 b), .d (.int .i64 c)] [] (fun x r => x = .d (.bool (decide (b ≤ a ∧ a ≤ c))) ∧ r = []) := by
  refine spec_of hT (C := []) Tryd.func110 rfl Tryd.call110 rfl rfl rfl ?_
  conv => whnf
  repeat' (refine br_intro (fun _ => ?_) (fun _ => ?_) <;> (conv => whnf))
  all_goals
    refine .ret _ ?_
    conv => whnf
    refine ⟨[], ⟨?_, rfl⟩, trivial⟩
    conv => lhs; whnf
    congr 2
    grind
def smallsL : List UInt8 := [97, 98, 99, 100, 101, 102, 103, 104, 105, 106, 107, 108, 109, 110, 111, 112, 113, 114, 115, 116, 117, 118, 119, 120, 121, 122]
def keyL : List UInt8 := smallsL ++ [48, 49, 50, 51, 52, 53, 54, 55, 56, 57, 45, 95]
theorem u8_all {p : UInt8 → Bool} (h : (List.range 256).all (fun n => p (UInt8.ofNat n)) = true) (c : UInt8) : p c = true := by
  have := List.all_eq_true.1 h c.toNat (List.mem_range.2 c.toNat_lt)
  simpa using this
theorem small_iff (c : UInt8) : smallsL.contains c = keyCh 0 c := by
  have := u8_all (p := fun c => smallsL.contains c == keyCh 0 c) (by decide +kernel) c
  simpa using this
theorem key_iff (c : UInt8) : keyL.contains c = keyCh 1 c := by
  have := u8_all (p := fun c => keyL.contains c == keyCh 1 c) (by decide +kernel) c
  simpa using this
theorem keyCh_succ (i : Nat) (c : UInt8) : keyCh (i + 1) c = keyCh 1 c := by simp [keyCh]
theorem keyCh_one {c : UInt8} (h : keyCh 0 c = true) : keyCh 1 c = true := by
  simp only [keyCh] at h ⊢; simp at h; simp [h]
theorem isKey_eq (s : List UInt8) : isKeyB s = (decide (1 ≤ (s.length : Int) ∧ (s.length : Int) ≤ 40) && onlyB (s.take 1) smallsL && onlyB s keyL) := by
  cases s with
  | nil => rfl
  | cons c l =>
    have h1 : onlyB ((c :: l).take 1) smallsL = keyCh 0 c := by simp only [onlyB, List.take_succ_cons, List.take_zero, List.all_cons, List.all_nil, Bool.and_true, small_iff]
    have h2 : onlyB (c :: l) keyL = (keyCh 1 c && l.all (keyCh 1 ·)) := by simp only [onlyB, List.all_cons, key_iff]
    have h3 : (List.range (c :: l).length).all (fun i => keyCh i ((c :: l).getD i 0)) = (keyCh 0 c && l.all (keyCh 1 ·)) := by
      rw [List.length_cons, List.range_succ_eq_map, List.all_cons, List.all_map]
      congr 1
      rw [Bool.eq_iff_iff, List.all_eq_true, List.all_eq_true]
      constructor
      · intro h x hx
        obtain ⟨i, hi, rfl⟩ := List.getElem_of_mem hx
        have := h i (List.mem_range.2 hi)
        simp only [Function.comp, List.getD_cons_succ, keyCh_succ] at this
        rwa [List.getD_eq_getElem?_getD, List.getElem?_eq_getElem hi] at this
      · intro h i hi
        have hi := List.mem_range.1 hi
        simp only [Function.comp, List.getD_cons_succ, keyCh_succ]
        rw [List.getD_eq_getElem?_getD, List.getElem?_eq_getElem hi]
        exact h _ (List.getElem_mem hi)
    unfold isKeyB
    rw [h1, h2, h3, Bool.eq_iff_iff]
    simp only [Bool.and_eq_true, decide_eq_true_eq, Bool.not_eq_true', List.isEmpty_cons, List.length_cons]
    constructor
    · rintro ⟨⟨⟨a, b⟩, _⟩, d⟩; exact ⟨⟨⟨by omega, by omega⟩, a⟩, keyCh_one a, b⟩
    · rintro ⟨⟨⟨_, d⟩, a⟩, _, b⟩; exact ⟨⟨⟨a, b⟩, trivial⟩, by omega⟩
-- R.Key
theorem s21 (s : List UInt8) (hl : s.length ≤ 2^40) : FSpec Tryd.prog 21 [.d (.str s)] [] (fun x r => x = .d (.bool (isKeyB s)) ∧ r = []) := by
  refine spec_of hT (C := []) Tryd.func21 rfl Tryd.call21 rfl rfl rfl ?_
  conv => whnf
  repeat' (first
    | (refine CallX.exact (s110 _ _ _) rfl rfl ?_; rotate_right; conv => whnf)
    | (refine CallX.exact (s111 s keyL hl ?_ ?_) rfl rfl ?_; rotate_right; conv => whnf)
    | (refine CallX.exact (s111 _ smallsL ?_ ?_ ?_) rfl rfl ?_; rotate_right; conv => whnf)
    | (refine br_intro (fun hb => ?_) (fun hb => ?_) <;> (try simp only [decide_eq_true_eq, decide_eq_false_iff_not, Bool.not_eq_true', Bool.not_eq_false', Bool.and_eq_true, Bool.or_eq_true, beq_iff_eq, not_and, Int.not_le, Int.not_lt, Int.toNat_natCast, beq_eq_false_iff_ne, ne_eq, eq_self, not_true_eq_false, not_false_eq_true] at hb) <;> (conv => whnf))
    | omega
    | (refine And.intro ?_ ?_; ((try dsimp only); first | omega | (refine ⟨by omega, by omega, Int.le_trans (Int.mul_le_mul_of_nonneg_right (Int.ofNat_le.2 (Nat.le_of_ble_eq_true (rfl : Nat.ble _ 1024 = true))) (by omega)) (by omega), by omega⟩) | (refine Nat.le_trans (Nat.mul_le_mul_left _ (Nat.le_of_ble_eq_true (rfl : Nat.ble _ 1024 = true))) ?_; omega) | (unfold inI64; omega) | (constructor <;> omega) | (simp only [inI64, List.length_cons, List.length_append, List.length_nil, List.length_set] at *; omega) | decide | (unfold inI64; decide)); conv => whnf)
    | omega | decide | assumption)
  all_goals try (simp; omega)
  all_goals
    refine .ret _ ?_
    conv => whnf
    refine ⟨[], ⟨?_, rfl⟩, trivial⟩
    conv => lhs; whnf
    rw [isKey_eq]; congr 2; grind
end Go.Proofs.YtellmmmohdjpeaaDoor
set_option maxRecDepth 20000
namespace Go.Proofs.YtellmmmohdjpeaaDoor
open Go Go.Eng
/-- The first fault of waivers, at a place. -/
def waivE (l : List Pair) (i : Nat) : Int :=
  if isKeyB (l.getD i ([], 0)).1 = false then 5 else if 0 < i ∧ strLe (l.getD i ([], 0)).1 (l.getD (i - 1) ([], 0)).1 = true then 7 else if ¬ (0 ≤ (l.getD i ([], 0)).2 ∧ (l.getD i ([], 0)).2 ≤ 1000000000) then 1 else 0
def waivsE (l : List Pair) : Int := if 500 < l.length then 2 else firstAt (waivE l) l.length
theorem first_step {f : Nat → Int} {i : Nat} (p : ∀ j, j < i → f j = 0) (h : f i = 0) : ∀ j, j < i + 1 → f j = 0 := fun j hj => by
  rcases Nat.lt_or_ge j i with q | q
  · exact p j q
  · have : j = i := by omega
    subst this; exact h
theorem toNat_pred (i : Nat) : ((i : Int) - 1).toNat = i - 1 := by omega
-- mark.checkWaivers
theorem s122 (l : List Pair) (hk : ∀ p ∈ l, p.1.length ≤ 2^40) (hl : l.length ≤ 2^40) : FSpec Tryd.prog 122 [.d (pairs l)] [] (fun x r => x = .d (.int .i64 (waivsE l)) ∧ r = []) := by
  refine spec_of hT (C := []) Tryd.func122 rfl Tryd.call122 rfl rfl rfl ?_
  conv => whnf
  refine br_intro (fun h0 => ?_) (fun h0 => ?_)
  · simp at h0
    conv => whnf
    refine .ret _ ?_
    conv => whnf
    refine ⟨[], ⟨?_, rfl⟩, trivial⟩
    conv => lhs; whnf
    unfold waivsE; rw [if_pos (by omega)]
  simp at h0
  conv => whnf
  refine LoopX.rule hT (C := []) (ι := Nat) (fun i => i ≤ l.length ∧ ∀ j, j < i → waivE l j = 0) (fun i => mkSt [(0, .d (pairs l)), (8, .d (pairs l)), (9, .d (.int .i64 l.length)), (10, .d (.int .i64 i))] []) (fun i => l.length - i) 0 ⟨by omega, by omega⟩ (by refine Entails.mk' [] rfl rfl ?_ ?_ <;> repeat' (first | exact True.intro | exact SV.le_refl _ | exact Res.le_refl _ | exact SV.le_int (by omega) | exact SV.le_any _ | refine And.intro ?_ ?_)) ?_
  rintro i ⟨p1, p2⟩
  have hx : i < l.length → (l.getD i ([], 0)).1.length ≤ 2^40 := fun hi => hk _ (getD_mem hi)
  have e1 : (i : Int).toNat = i := Int.toNat_natCast i
  have hbad : ∀ e : Int, i < l.length → e ≠ 0 → waivE l i = e → waivsE l = e := fun e h h1 h2 => by
    unfold waivsE; rw [if_neg (by omega)]
    exact firstAt_eq h p2 h1 h2
  conv => whnf
  repeat' (first
    | (refine CallX.exact (s108 _ (hx (by omega))) rfl rfl ?_; rotate_right; conv => whnf)
    | (refine CallX.exact (s119 _ _ _) rfl rfl ?_; rotate_right; conv => whnf)
    | (refine br_intro (fun hb => ?_) (fun hb => ?_) <;> (try simp only [decide_eq_true_eq, decide_eq_false_iff_not, Bool.not_eq_true', Bool.not_eq_false', Bool.and_eq_true, Bool.or_eq_true, beq_iff_eq, not_and, Int.not_le, Int.not_lt, Int.toNat_natCast, beq_eq_false_iff_ne, ne_eq, eq_self, not_true_eq_false, not_false_eq_true] at hb) <;> (conv => whnf))
    | (refine RegX.rule (id := 8) hT rfl [] [(0, []), (1, []), (2, []), (3, []), (4, []), (5, [3, 4]), (6, [3, 4, 5]), (7, [3, 4, 5]), (8, [3, 4]), (9, [3, 4]), (10, [3, 4]), (11, []), (12, []), (13, [])] (by decide +kernel) ?_; conv => whnf)
    | omega
    | (refine And.intro ?_ ?_; ((try dsimp only); first | omega | (refine ⟨by omega, by omega, Int.le_trans (Int.mul_le_mul_of_nonneg_right (Int.ofNat_le.2 (Nat.le_of_ble_eq_true (rfl : Nat.ble _ 1024 = true))) (by omega)) (by omega), by omega⟩) | (refine Nat.le_trans (Nat.mul_le_mul_left _ (Nat.le_of_ble_eq_true (rfl : Nat.ble _ 1024 = true))) ?_; omega) | (unfold inI64; omega) | (constructor <;> omega) | (simp only [inI64, List.length_cons, List.length_append, List.length_nil, List.length_set] at *; omega) | decide | (unfold inI64; decide)); conv => whnf)
    | omega | decide | assumption)
  all_goals first
    | (refine ⟨i + 1, ⟨by omega, first_step p2 (by clear p2 hbad hk hx; simp only [e1, toNat_pred] at *; unfold waivE strLe; grind)⟩, by omega, (by refine Entails.mk' [] rfl rfl ?_ ?_ <;> repeat' (first | exact True.intro | exact SV.le_refl _ | exact Res.le_refl _ | exact SV.le_int (by omega) | exact SV.le_any _ | refine And.intro ?_ ?_))⟩)
    | (refine .ret _ ?_; conv => whnf
       refine ⟨[], ⟨?_, rfl⟩, trivial⟩
       conv => lhs; whnf
       congr 2
       first
         | exact (hbad _ (by omega) (by decide) (by clear p2 hbad hk hx; simp only [e1, toNat_pred] at *; unfold waivE strLe; grind)).symm
         | (have : i = l.length := by omega
            subst this
            unfold waivsE; rw [if_neg (by omega), firstAt_zero p2]))
end Go.Proofs.YtellmmmohdjpeaaDoor
set_option maxRecDepth 20000
namespace Go.Proofs.YtellmmmohdjpeaaDoor
open Go Go.Eng
/-- What is paid with waivers. -/
def payW (h : List UInt8) : Int → List Pair → Int := List.foldl fun p y => if y.1 = h then min p y.2 else p
def exL (l ws : List Pair) : List Pair := (l.filter fun x => !decide (x.1 = [])).map fun x => (x.1, payW x.1 x.2 ws)
def exN (l ws : List Pair) : Int := (l.map fun x => if x.1 = [] then x.2 else x.2 - payW x.1 x.2 ws).sum
theorem payW_le (h : List UInt8) : ∀ (ws : List Pair) (p : Int), (∀ y ∈ ws, 0 ≤ y.2) → 0 ≤ p → 0 ≤ payW h p ws ∧ payW h p ws ≤ p := by
  intro ws
  induction ws with
  | nil => intro p _ h; exact ⟨h, Int.le_refl _⟩
  | cons y ws ih =>
    intro p hw hp
    have h1 := hw y List.mem_cons_self
    have h2 := ih (if y.1 = h then min p y.2 else p) (fun z hz => hw z (List.mem_cons_of_mem _ hz)) (by split <;> omega)
    simp only [payW, List.foldl_cons] at h2 ⊢
    refine ⟨h2.1, Int.le_trans h2.2 ?_⟩
    split <;> omega
theorem take_snocD {α : Type} {l : List α} {i : Nat} {d : α} (h : i < l.length) : l.take (i + 1) = l.take i ++ [l.getD i d] := by
  rw [List.take_succ_eq_append_getElem h, List.getD_eq_getElem?_getD, List.getElem?_eq_getElem h]; rfl
theorem exL_snoc {l ws : List Pair} {i : Nat} (h : i < l.length) : exL (l.take (i + 1)) ws = exL (l.take i) ws ++ (if (l.getD i ([], 0)).1 = [] then [] else [((l.getD i ([], 0)).1, payW (l.getD i ([], 0)).1 (l.getD i ([], 0)).2 ws)]) := by
  rw [take_snocD (d := ([], 0)) h]
  simp only [exL, List.filter_append, List.map_append]
  congr 1
  generalize l.getD i ([], 0) = x
  by_cases q : x.1 = [] <;> simp [List.filter_cons, q]
theorem exN_snoc {l ws : List Pair} {i : Nat} (h : i < l.length) : exN (l.take (i + 1)) ws = exN (l.take i) ws + (if (l.getD i ([], 0)).1 = [] then (l.getD i ([], 0)).2 else (l.getD i ([], 0)).2 - payW (l.getD i ([], 0)).1 (l.getD i ([], 0)).2 ws) := by
  rw [take_snocD (d := ([], 0)) h]
  simp [exN]
theorem payW_snoc {h : List UInt8} {p : Int} {ws : List Pair} {j : Nat} (hj : j < ws.length) : payW h p (ws.take (j + 1)) = if (ws.getD j ([], 0)).1 = h then min (payW h p (ws.take j)) (ws.getD j ([], 0)).2 else payW h p (ws.take j) := by
  rw [take_snocD (d := ([], 0)) hj]
  simp [payW]
def exF (l ws : List Pair) : Int := if sharesE l = 0 then waivsE ws else sharesE l
theorem firstAt_all {f : Nat → Int} : ∀ {n : Nat}, firstAt f n = 0 → ∀ j, j < n → f j = 0 := by
  intro n
  induction n with
  | zero => intro _ j hj; omega
  | succ n ih =>
    intro h j hj
    rw [firstAt] at h
    split at h
    · rename_i q
      rcases Nat.lt_or_ge j n with r | r
      · exact ih q j r
      · have : j = n := by omega
        subst this; exact h
    · omega
theorem mem_getD {α : Type} {l : List α} {x d : α} (h : x ∈ l) : ∃ j, j < l.length ∧ l.getD j d = x := by
  obtain ⟨j, hj, rfl⟩ := List.getElem_of_mem h
  exact ⟨j, hj, by rw [List.getD_eq_getElem?_getD, List.getElem?_eq_getElem hj]; rfl⟩
theorem shares_zero {l : List Pair} (h : sharesE l = 0) : l.length ≤ 50 ∧ ∀ x ∈ l, 0 ≤ x.2 ∧ x.2 ≤ 1000000000 := by
  unfold sharesE at h
  split at h
  · omega
  · refine ⟨by omega, fun x hx => ?_⟩
    obtain ⟨j, hj, rfl⟩ := mem_getD (d := ([], 0)) hx
    have := firstAt_all h j hj
    unfold shareE at this
    grind
theorem waivs_zero {l : List Pair} (h : waivsE l = 0) : l.length ≤ 500 ∧ ∀ x ∈ l, 0 ≤ x.2 ∧ x.2 ≤ 1000000000 := by
  unfold waivsE at h
  split at h
  · omega
  · refine ⟨by omega, fun x hx => ?_⟩
    obtain ⟨j, hj, rfl⟩ := mem_getD (d := ([], 0)) hx
    have := firstAt_all h j hj
    unfold waivE at this
    grind
theorem exN_bd {l ws : List Pair} {M : Int} (hl : ∀ x ∈ l, 0 ≤ x.2 ∧ x.2 ≤ M) (hw : ∀ y ∈ ws, 0 ≤ y.2) : 0 ≤ exN l ws ∧ exN l ws ≤ M * l.length := by
  induction l with
  | nil => simp [exN]
  | cons x l ih =>
    have h1 := hl x List.mem_cons_self
    have h2 := ih (fun y hy => hl y (List.mem_cons_of_mem _ hy))
    have h3 := payW_le x.1 ws x.2 hw h1.1
    simp only [exN, List.map_cons, List.sum_cons, List.length_cons] at h2 ⊢
    rw [show ((l.length + 1 : Nat) : Int) = (l.length : Int) + 1 by push_cast; rfl, Int.mul_add, Int.mul_one]
    split <;> omega
theorem exF_eq (l ws : List Pair) : exF l ws = firstE [sharesE l, waivsE ws] := by
  unfold exF firstE firstE firstE
  split <;> rename_i h <;> simp [h]
theorem exL_len (l ws : List Pair) : (exL l ws).length ≤ l.length := by
  unfold exL; rw [List.length_map]; exact List.length_filter_le _ _
-- mark.Excess
theorem s40 (l ws : List Pair) (hk : ∀ p ∈ l, p.1.length ≤ 2^40) (hl : l.length ≤ 2^40) (hk' : ∀ p ∈ ws, p.1.length ≤ 2^40) (hl' : ws.length ≤ 2^40) :
    FSpec Tryd.prog 40 [.d (pairs l), .d (pairs ws)] [] (fun x r => x = .tup [.d (if exF l ws = 0 then pairs (exL l ws) else .nilsl), .d (.int .i64 (if exF l ws = 0 then exN l ws else 0)), .d (.int .i64 (exF l ws))] ∧ r = []) := by
  refine spec_of hT (C := []) Tryd.func40 rfl Tryd.call40 rfl rfl rfl ?_
  conv => whnf
  repeat' (first
    | (refine CallX.exact (s121 _ hk hl) rfl rfl ?_; rotate_right; conv => whnf)
    | (refine CallX.exact (s122 _ hk' hl') rfl rfl ?_; rotate_right; conv => whnf)
    | (refine CallX.pure (s105 [_, _] (by simp)) ⟨SV.le_lit (by rfl) (by rfl), trivial⟩ rfl ?_; conv => whnf)
    | (refine br_intro (fun hb => ?_) (fun hb => ?_) <;> (try simp only [decide_eq_true_eq, decide_eq_false_iff_not, Bool.not_eq_true', Bool.not_eq_false', Bool.and_eq_true, Bool.or_eq_true, beq_iff_eq, not_and, Int.not_le, Int.not_lt, Int.toNat_natCast, beq_eq_false_iff_ne, ne_eq, eq_self, not_true_eq_false, not_false_eq_true] at hb) <;> (conv => whnf))
    | omega
    | (refine And.intro ?_ ?_; ((try dsimp only); first | omega | (refine ⟨by omega, by omega, Int.le_trans (Int.mul_le_mul_of_nonneg_right (Int.ofNat_le.2 (Nat.le_of_ble_eq_true (rfl : Nat.ble _ 1024 = true))) (by omega)) (by omega), by omega⟩) | (refine Nat.le_trans (Nat.mul_le_mul_left _ (Nat.le_of_ble_eq_true (rfl : Nat.ble _ 1024 = true))) ?_; omega) | (unfold inI64; omega) | (constructor <;> omega) | (simp only [inI64, List.length_cons, List.length_append, List.length_nil, List.length_set] at *; omega) | decide | (unfold inI64; decide)); conv => whnf)
    | omega | decide | assumption)
  · rw [← exF_eq] at hb
    refine .ret _ ?_
    conv => whnf
    refine ⟨[], ⟨congrArg SV.tup ?_, rfl⟩, trivial⟩
    repeat' (refine cons_eq ?_ ?_)
    all_goals (conv => lhs; whnf)
    all_goals try (with_reducible rfl)
    · rw [if_neg hb]
    · rw [if_neg hb]
    · rw [← exF_eq]
  rw [← exF_eq] at hb
  have hb1 : sharesE l = 0 := by unfold exF at hb; split at hb <;> assumption
  have hb2 : waivsE ws = 0 := by unfold exF at hb; rw [if_pos hb1] at hb; exact hb
  obtain ⟨n1, n2⟩ := shares_zero hb1
  obtain ⟨n3, n4⟩ := waivs_zero hb2
  rw [hb]
  have hsm : ∀ i, i ≤ l.length → 0 ≤ exN (l.take i) ws ∧ exN (l.take i) ws ≤ 1000000000 * i := fun i hi => by
    have := exN_bd (M := 1000000000) (l := l.take i) (ws := ws) (fun x hx => n2 x (List.mem_of_mem_take hx)) (fun y hy => (n4 y hy).1)
    rwa [List.length_take, Nat.min_eq_left hi] at this
  refine LoopX.rule hT (C := []) (ι := Nat) (fun i => i ≤ l.length) (fun i => mkSt [(1, .d (pairs ws)), (8, .buf 8), (9, .d (.int .i64 (exN (l.take i) ws))), (24, .d (pairs l)), (25, .d (.int .i64 l.length)), (26, .d (.int .i64 i))] [(8, seqB 78 2 pF ([], 0) (exL (l.take i) ws))]) (fun i => l.length - i) 0 (by omega) ?_ ?_
  · exact (Entails.nil 8 8 78 2 (rowF pF ([], 0) []) rfl rfl (by decide)).trans (by refine Entails.mk' [(8, 8)] rfl rfl ?_ ?_ <;> repeat' (first | exact True.intro | exact SV.le_refl _ | exact Res.le_refl _ | exact SV.le_int (by omega) | exact SV.le_any _ | refine And.intro ?_ ?_))
  rintro i p1
  have e1 : (i : Int).toNat = i := Int.toNat_natCast i
  have hs0 := hsm i p1
  have hg : (i : Int) < l.length → 0 ≤ (l.getD (i : Int).toNat ([], 0)).2 ∧ (l.getD (i : Int).toNat ([], 0)).2 ≤ 1000000000 := fun h => by rw [e1]; exact n2 _ (getD_mem (by omega))
  conv => whnf
  repeat' (first
    | (refine br_intro (fun hb => ?_) (fun hb => ?_) <;> (try simp only [decide_eq_true_eq, decide_eq_false_iff_not, Bool.not_eq_true', Bool.not_eq_false', Bool.and_eq_true, Bool.or_eq_true, beq_iff_eq, not_and, Int.not_le, Int.not_lt, Int.toNat_natCast, beq_eq_false_iff_ne, ne_eq, eq_self, not_true_eq_false, not_false_eq_true] at hb) <;> (conv => whnf))
    | omega
    | (refine And.intro ?_ ?_; ((try dsimp only); first | omega | (refine ⟨by omega, by omega, Int.le_trans (Int.mul_le_mul_of_nonneg_right (Int.ofNat_le.2 (Nat.le_of_ble_eq_true (rfl : Nat.ble _ 1024 = true))) (by omega)) (by omega), by omega⟩) | (refine Nat.le_trans (Nat.mul_le_mul_left _ (Nat.le_of_ble_eq_true (rfl : Nat.ble _ 1024 = true))) ?_; omega) | (unfold inI64; omega) | (constructor <;> omega) | (simp only [inI64, List.length_cons, List.length_append, List.length_nil, List.length_set] at *; omega) | decide | (unfold inI64; decide)); conv => whnf)
    | omega | decide | assumption)
  · rw [e1] at *
    refine ⟨i + 1, by omega, by omega, ?_⟩
    have hi : i < l.length := by omega
    refine Entails.mk' [(8, 8)] rfl rfl ⟨SV.le_refl _, SV.le_refl _, SV.le_int ?_, SV.le_refl _, SV.le_refl _, SV.le_refl _, trivial⟩ ⟨?_, trivial⟩
    · rw [exN_snoc hi, if_pos hb]
    · rw [exL_snoc hi, if_pos hb, List.append_nil]; exact Res.le_refl _
  · have hi : i < l.length := by omega
    rw [e1] at *
    have hx := hg (by omega)
    refine LoopX.rule hT (C := []) (ι := Nat) (fun j => j ≤ ws.length) (fun j => mkSt [(1, .d (pairs ws)), (8, .buf 8), (9, .d (.int .i64 (exN (l.take i) ws))), (11, .ptr 11 0), (12, .d (.int .i64 (payW (l.getD i ([], 0)).1 (l.getD i ([], 0)).2 (ws.take j)))), (24, .d (pairs l)), (25, .d (.int .i64 l.length)), (26, .d (.int .i64 i)), (39, .d (pairs ws)), (40, .d (.int .i64 ws.length)), (41, .d (.int .i64 j))] [(8, seqB 78 2 pF ([], 0) (exL (l.take i) ws)), (11, .cells 78 [.d (.str (l.getD i ([], 0)).1), .d (.int .i64 (l.getD i ([], 0)).2)])]) (fun j => ws.length - j) 0 (by omega) (by refine Entails.mk' [(8, 8), (11, 11)] rfl rfl ?_ ?_ <;> repeat' (first | exact True.intro | exact SV.le_refl _ | exact Res.le_refl _ | exact SV.le_int (by omega) | exact SV.le_any _ | refine And.intro ?_ ?_)) ?_
    rintro j q1
    have e2 : (j : Int).toNat = j := Int.toNat_natCast j
    conv => whnf
    repeat' (first
      | (refine br_intro (fun hb => ?_) (fun hb => ?_) <;> (try simp only [decide_eq_true_eq, decide_eq_false_iff_not, Bool.not_eq_true', Bool.not_eq_false', Bool.and_eq_true, Bool.or_eq_true, beq_iff_eq, not_and, Int.not_le, Int.not_lt, Int.toNat_natCast, beq_eq_false_iff_ne, ne_eq, eq_self, not_true_eq_false, not_false_eq_true] at hb) <;> (conv => whnf))
      | omega
      | (refine And.intro ?_ ?_; ((try dsimp only); first | omega | (refine ⟨by omega, by omega, Int.le_trans (Int.mul_le_mul_of_nonneg_right (Int.ofNat_le.2 (Nat.le_of_ble_eq_true (rfl : Nat.ble _ 1024 = true))) (by omega)) (by omega), by omega⟩) | (refine Nat.le_trans (Nat.mul_le_mul_left _ (Nat.le_of_ble_eq_true (rfl : Nat.ble _ 1024 = true))) ?_; omega) | (unfold inI64; omega) | (constructor <;> omega) | (simp only [inI64, List.length_cons, List.length_append, List.length_nil, List.length_set] at *; omega) | decide | (unfold inI64; decide)); conv => whnf)
      | omega | decide | assumption)
    · have hj : j < ws.length := by omega
      refine ⟨j + 1, by omega, by omega, ?_⟩
      refine Entails.mk' [(8, 8), (11, 11)] rfl rfl ⟨SV.le_refl _, SV.le_refl _, SV.le_refl _, SV.le_refl _, SV.le_int ?_, SV.le_refl _, SV.le_refl _, SV.le_refl _, SV.le_refl _, SV.le_refl _, SV.le_refl _, trivial⟩ ⟨Res.le_refl _, Res.le_refl _, trivial⟩
      rw [payW_snoc hj, if_pos hb]; rfl
    · have hj : j < ws.length := by omega
      refine ⟨j + 1, by omega, by omega, ?_⟩
      refine Entails.mk' [(8, 8), (11, 11)] rfl rfl ⟨SV.le_refl _, SV.le_refl _, SV.le_refl _, SV.le_refl _, SV.le_int ?_, SV.le_refl _, SV.le_refl _, SV.le_refl _, SV.le_refl _, SV.le_refl _, SV.le_refl _, trivial⟩ ⟨Res.le_refl _, Res.le_refl _, trivial⟩
      rw [payW_snoc hj, if_neg hb]
    · have : j = ws.length := by omega
      subst this
      rw [List.take_length]
      have b1 := payW_le (l.getD i ([], 0)).1 ws (l.getD i ([], 0)).2 (fun y hy => (n4 y hy).1) hx.1
      have b2 := exL_len (l.take i) ws
      rw [List.length_take, Nat.min_eq_left (by omega)] at b2
      repeat' (first
        | (refine br_intro (fun hb => ?_) (fun hb => ?_) <;> (try simp only [decide_eq_true_eq, decide_eq_false_iff_not, Bool.not_eq_true', Bool.not_eq_false', Bool.and_eq_true, Bool.or_eq_true, beq_iff_eq, not_and, Int.not_le, Int.not_lt, Int.toNat_natCast, beq_eq_false_iff_ne, ne_eq, eq_self, not_true_eq_false, not_false_eq_true] at hb) <;> (conv => whnf))
        | omega
        | (refine And.intro ?_ ?_; ((try dsimp only); first | omega | (refine ⟨by omega, by omega, Int.le_trans (Int.mul_le_mul_of_nonneg_right (Int.ofNat_le.2 (Nat.le_of_ble_eq_true (rfl : Nat.ble _ 1024 = true))) (by omega)) (by omega), by omega⟩) | (refine Nat.le_trans (Nat.mul_le_mul_left _ (Nat.le_of_ble_eq_true (rfl : Nat.ble _ 1024 = true))) ?_; omega) | (unfold inI64; omega) | (constructor <;> omega) | (simp only [inI64, List.length_cons, List.length_append, List.length_nil, List.length_set] at *; omega) | decide | (unfold inI64; decide)); conv => whnf)
        | omega | decide | assumption)
      refine ⟨i + 1, by omega, by omega, ?_⟩
      refine Entails.mk' [(8, 67)] rfl rfl ⟨SV.le_refl _, SV.le_refl _, SV.le_int ?_, SV.le_refl _, SV.le_refl _, SV.le_refl _, trivial⟩ ⟨?_, trivial⟩
      · rw [exN_snoc hi, if_neg (by assumption)]
      · rw [exL_snoc hi, if_neg (by assumption)]; exact Res.le_snocF (by rfl)
  · have : i = l.length := by omega
    subst this
    rw [List.take_length]
    refine .freeze _ 8 78 2 _ _ rfl ?_
    refine .ret _ ?_
    conv => whnf
    refine ⟨[], ⟨congrArg SV.tup ?_, rfl⟩, trivial⟩
    repeat' (refine cons_eq ?_ ?_)
    all_goals (conv => lhs; whnf)
    all_goals try (with_reducible rfl)
    · rw [if_pos rfl]
    · rw [if_pos rfl]
end Go.Proofs.YtellmmmohdjpeaaDoor
set_option maxRecDepth 20000
namespace Go.Proofs.YtellmmmohdjpeaaDoor
open Go Go.Eng
theorem key_ne {s : List UInt8} (h : isKeyB s = true) : s ≠ [] := by
  intro q; subst q; simp [isKeyB] at h
/-- The name before. -/
def lastN (ws : List Pair) (i : Nat) : List UInt8 := if i = 0 then [] else (ws.getD (i - 1) ([], 0)).1
theorem bytesLess_nil (a : List UInt8) : Op.bytesLess a [] = false := by cases a <;> rfl
-- Q.SharesFault
theorem s41 (l ws : List Pair) (hk : ∀ p ∈ l, p.1.length ≤ 2^40) (hl : l.length ≤ 2^40) (hk' : ∀ p ∈ ws, p.1.length ≤ 2^40) (hl' : ws.length ≤ 2^40) :
    FSpec Tryd.prog 41 [.d (pairs l), .d (pairs ws)] [] (fun x r => x = .d (.int .i64 (exF l ws)) ∧ r = []) := by
  refine spec_of hT (C := []) Tryd.func41 rfl Tryd.call41 rfl rfl rfl ?_
  conv => whnf
  refine br_intro (fun h0 => ?_) (fun h0 => ?_)
  · simp at h0
    conv => whnf
    refine .ret _ ?_
    conv => whnf
    refine ⟨[], ⟨?_, rfl⟩, trivial⟩
    conv => lhs; whnf
    have : sharesE l = 2 := by unfold sharesE; rw [if_pos (by omega)]
    simp [exF, this]
  simp at h0
  conv => whnf
  refine LoopX.rule hT (C := []) (ι := Nat) (fun i => i ≤ l.length ∧ ∀ j, j < i → shareE l j = 0) (fun i => mkSt [(0, .d (pairs l)), (1, .d (pairs ws)), (13, .d (pairs l)), (14, .d (.int .i64 l.length)), (15, .d (.int .i64 i))] []) (fun i => l.length - i) 0 ⟨by omega, by omega⟩ (by refine Entails.mk' [] rfl rfl ?_ ?_ <;> repeat' (first | exact True.intro | exact SV.le_refl _ | exact Res.le_refl _ | exact SV.le_int (by omega) | exact SV.le_any _ | refine And.intro ?_ ?_)) ?_
  rintro i ⟨p1, p2⟩
  have hx : i < l.length → (l.getD i ([], 0)).1.length ≤ 2^40 := fun hi => hk _ (getD_mem hi)
  have e1 : (i : Int).toNat = i := Int.toNat_natCast i
  have hbad : ∀ e : Int, i < l.length → e ≠ 0 → shareE l i = e → exF l ws = e := fun e h h1 h2 => by
    have : sharesE l = e := by unfold sharesE; rw [if_neg (by omega)]; exact firstAt_eq h p2 h1 h2
    unfold exF; rw [this, if_neg h1]
  conv => whnf
  repeat' (first
    | (refine CallX.exact (s21 _ (hx (by omega))) rfl rfl ?_; rotate_right; conv => whnf)
    | (refine CallX.exact (s109 _ _ _) rfl rfl ?_; rotate_right; conv => whnf)
    | (refine br_intro (fun hb => ?_) (fun hb => ?_) <;> (try simp only [decide_eq_true_eq, decide_eq_false_iff_not, Bool.not_eq_true', Bool.not_eq_false', Bool.and_eq_true, Bool.or_eq_true, beq_iff_eq, not_and, Int.not_le, Int.not_lt, Int.toNat_natCast, beq_eq_false_iff_ne, ne_eq, eq_self, not_true_eq_false, not_false_eq_true] at hb) <;> (conv => whnf))
    | (refine RegX.rule (id := 8) hT rfl [] [(0, []), (1, []), (2, []), (3, []), (4, []), (5, [3, 4]), (6, [3, 4, 5]), (7, [3, 4, 5]), (8, [3, 4]), (9, [3, 4]), (10, [3, 4]), (11, []), (12, []), (13, [])] (by decide +kernel) ?_; conv => whnf)
    | omega
    | (refine And.intro ?_ ?_; ((try dsimp only); first | omega | (refine ⟨by omega, by omega, Int.le_trans (Int.mul_le_mul_of_nonneg_right (Int.ofNat_le.2 (Nat.le_of_ble_eq_true (rfl : Nat.ble _ 1024 = true))) (by omega)) (by omega), by omega⟩) | (refine Nat.le_trans (Nat.mul_le_mul_left _ (Nat.le_of_ble_eq_true (rfl : Nat.ble _ 1024 = true))) ?_; omega) | (unfold inI64; omega) | (constructor <;> omega) | (simp only [inI64, List.length_cons, List.length_append, List.length_nil, List.length_set] at *; omega) | decide | (unfold inI64; decide)); conv => whnf)
    | omega | decide | assumption)
  all_goals first
    | (refine ⟨i + 1, ⟨by omega, first_step p2 (by clear p2 hbad hk hx; simp only [e1, toNat_pred] at *; unfold shareE strLe; grind)⟩, by omega, (by refine Entails.mk' [] rfl rfl ?_ ?_ <;> repeat' (first | exact True.intro | exact SV.le_refl _ | exact Res.le_refl _ | exact SV.le_int (by omega) | exact SV.le_any _ | refine And.intro ?_ ?_))⟩)
    | (refine .ret _ ?_; conv => whnf
       refine ⟨[], ⟨?_, rfl⟩, trivial⟩
       conv => lhs; whnf
       congr 2
       first
         | exact (hbad _ (by omega) (by decide) (by clear p2 hbad hk hx; simp only [e1, toNat_pred] at *; unfold shareE strLe; grind)).symm
         | (have : i = l.length := by omega
            subst this
            have hq : sharesE l = 0 := by unfold sharesE; rw [if_neg (by omega), firstAt_zero p2]
            have hq2 : waivsE ws = 2 := by unfold waivsE; rw [if_pos (by omega)]
            unfold exF; rw [if_pos hq, hq2]))
    | skip
  have : i = l.length := by omega
  subst this
  have hq : sharesE l = 0 := by unfold sharesE; rw [if_neg (by omega), firstAt_zero p2]
  have hF : exF l ws = waivsE ws := by unfold exF; rw [if_pos hq]
  rw [hF]
  clear hbad hF hx e1
  refine LoopX.rule hT (C := []) (ι := Nat) (fun i => i ≤ ws.length ∧ ∀ j, j < i → waivE ws j = 0) (fun i => mkSt [(7, .d (.str (lastN ws i))), (53, .d (pairs ws)), (54, .d (.int .i64 ws.length)), (55, .d (.int .i64 i))] []) (fun i => ws.length - i) 0 ⟨by omega, by omega⟩ (by refine Entails.mk' [] rfl rfl ?_ ?_ <;> repeat' (first | exact True.intro | exact SV.le_refl _ | exact Res.le_refl _ | exact SV.le_int (by omega) | exact SV.le_any _ | refine And.intro ?_ ?_)) ?_
  rintro i ⟨p1, p2⟩
  have hx : i < ws.length → (ws.getD i ([], 0)).1.length ≤ 2^40 := fun hi => hk' _ (getD_mem hi)
  have e1 : (i : Int).toNat = i := Int.toNat_natCast i
  have hbad : ∀ e : Int, i < ws.length → e ≠ 0 → waivE ws i = e → waivsE ws = e := fun e h h1 h2 => by
    unfold waivsE; rw [if_neg (by omega)]; exact firstAt_eq h p2 h1 h2
  conv => whnf
  repeat' (first
    | (refine CallX.exact (s21 _ (hx (by omega))) rfl rfl ?_; rotate_right; conv => whnf)
    | (refine CallX.exact (s109 _ _ _) rfl rfl ?_; rotate_right; conv => whnf)
    | (refine br_intro (fun hb => ?_) (fun hb => ?_) <;> (try simp only [decide_eq_true_eq, decide_eq_false_iff_not, Bool.not_eq_true', Bool.not_eq_false', Bool.and_eq_true, Bool.or_eq_true, beq_iff_eq, not_and, Int.not_le, Int.not_lt, Int.toNat_natCast, beq_eq_false_iff_ne, ne_eq, eq_self, not_true_eq_false, not_false_eq_true] at hb) <;> (conv => whnf))
    | (refine RegX.rule (id := 8) hT rfl [] [(0, []), (1, []), (2, []), (3, []), (4, []), (5, [3, 4]), (6, [3, 4, 5]), (7, [3, 4, 5]), (8, [3, 4]), (9, [3, 4]), (10, [3, 4]), (11, []), (12, []), (13, [])] (by decide +kernel) ?_; conv => whnf)
    | omega
    | (refine And.intro ?_ ?_; ((try dsimp only); first | omega | (refine ⟨by omega, by omega, Int.le_trans (Int.mul_le_mul_of_nonneg_right (Int.ofNat_le.2 (Nat.le_of_ble_eq_true (rfl : Nat.ble _ 1024 = true))) (by omega)) (by omega), by omega⟩) | (refine Nat.le_trans (Nat.mul_le_mul_left _ (Nat.le_of_ble_eq_true (rfl : Nat.ble _ 1024 = true))) ?_; omega) | (unfold inI64; omega) | (constructor <;> omega) | (simp only [inI64, List.length_cons, List.length_append, List.length_nil, List.length_set] at *; omega) | decide | (unfold inI64; decide)); conv => whnf)
    | omega | decide | assumption)
  all_goals first
    | (refine ⟨i + 1, ⟨by omega, first_step p2 (by clear p2 hbad hk hx; simp only [e1, toNat_pred, lastN] at *; unfold waivE strLe; grind)⟩, by omega, (by refine Entails.mk' [] rfl rfl ?_ ?_ <;> repeat' (first | exact True.intro | exact SV.le_refl _ | exact Res.le_refl _ | exact SV.le_int (by omega) | exact SV.le_any _ | refine And.intro ?_ ?_))⟩)
    | (refine .ret _ ?_; conv => whnf
       refine ⟨[], ⟨?_, rfl⟩, trivial⟩
       conv => lhs; whnf
       congr 2
       first
         | exact (hbad _ (by omega) (by decide) (by clear p2 hbad hk hx; simp only [e1, toNat_pred, lastN] at *; unfold waivE strLe; grind [key_ne, bytesLess_nil])).symm
         | (have : i = ws.length := by omega
            subst this
            unfold waivsE; rw [if_neg (by omega), firstAt_zero p2]))
end Go.Proofs.YtellmmmohdjpeaaDoor
set_option maxRecDepth 20000
namespace Go.Proofs.YtellmmmohdjpeaaDoor
open Go Go.Eng
-- Q.ExcessOf
theorem s43 (l ws : List Pair) (n1 : l.length ≤ 50) (n2 : ∀ x ∈ l, 0 ≤ x.2 ∧ x.2 ≤ 1000000000) (n4 : ∀ x ∈ ws, 0 ≤ x.2 ∧ x.2 ≤ 1000000000) (n3 : ws.length ≤ 500) :
    FSpec Tryd.prog 43 [.d (pairs l), .d (pairs ws)] [] (fun x r => x = .tup [.d (pairs (exL l ws)), .d (.int .i64 (exN l ws))] ∧ r = []) := by
  refine spec_of hT (C := []) Tryd.func43 rfl Tryd.call43 rfl rfl rfl ?_
  conv => whnf
  have hsm : ∀ i, i ≤ l.length → 0 ≤ exN (l.take i) ws ∧ exN (l.take i) ws ≤ 1000000000 * i := fun i hi => by
    have := exN_bd (M := 1000000000) (l := l.take i) (ws := ws) (fun x hx => n2 x (List.mem_of_mem_take hx)) (fun y hy => (n4 y hy).1)
    rwa [List.length_take, Nat.min_eq_left hi] at this
  refine LoopX.rule hT (C := []) (ι := Nat) (fun i => i ≤ l.length) (fun i => mkSt [(1, .d (pairs ws)), (6, .buf 6), (7, .d (.int .i64 (exN (l.take i) ws))), (13, .d (pairs l)), (14, .d (.int .i64 l.length)), (15, .d (.int .i64 i))] [(6, seqB 78 2 pF ([], 0) (exL (l.take i) ws))]) (fun i => l.length - i) 0 (by omega) ?_ ?_
  · exact (Entails.nil 6 6 78 2 (rowF pF ([], 0) []) rfl rfl (by decide)).trans (by refine Entails.mk' [(6, 6)] rfl rfl ?_ ?_ <;> repeat' (first | exact True.intro | exact SV.le_refl _ | exact Res.le_refl _ | exact SV.le_int (by omega) | exact SV.le_any _ | refine And.intro ?_ ?_))
  rintro i p1
  have e1 : (i : Int).toNat = i := Int.toNat_natCast i
  have hs0 := hsm i p1
  have hg : (i : Int) < l.length → 0 ≤ (l.getD (i : Int).toNat ([], 0)).2 ∧ (l.getD (i : Int).toNat ([], 0)).2 ≤ 1000000000 := fun h => by rw [e1]; exact n2 _ (getD_mem (by omega))
  conv => whnf
  repeat' (first
    | (refine br_intro (fun hb => ?_) (fun hb => ?_) <;> (try simp only [decide_eq_true_eq, decide_eq_false_iff_not, Bool.not_eq_true', Bool.not_eq_false', Bool.and_eq_true, Bool.or_eq_true, beq_iff_eq, not_and, Int.not_le, Int.not_lt, Int.toNat_natCast, beq_eq_false_iff_ne, ne_eq, eq_self, not_true_eq_false, not_false_eq_true] at hb) <;> (conv => whnf))
    | omega
    | (refine And.intro ?_ ?_; ((try dsimp only); first | omega | (refine ⟨by omega, by omega, Int.le_trans (Int.mul_le_mul_of_nonneg_right (Int.ofNat_le.2 (Nat.le_of_ble_eq_true (rfl : Nat.ble _ 1024 = true))) (by omega)) (by omega), by omega⟩) | (refine Nat.le_trans (Nat.mul_le_mul_left _ (Nat.le_of_ble_eq_true (rfl : Nat.ble _ 1024 = true))) ?_; omega) | (unfold inI64; omega) | (constructor <;> omega) | (simp only [inI64, List.length_cons, List.length_append, List.length_nil, List.length_set] at *; omega) | decide | (unfold inI64; decide)); conv => whnf)
    | omega | decide | assumption)
  · have hi : i < l.length := by omega
    rw [e1] at *
    have hx := hg (by omega)
    refine LoopX.rule hT (C := []) (ι := Nat) (fun j => j ≤ ws.length) (fun j => mkSt [(1, .d (pairs ws)), (6, .buf 6), (7, .d (.int .i64 (exN (l.take i) ws))), (9, .ptr 9 0), (10, .d (.int .i64 (payW (l.getD i ([], 0)).1 (l.getD i ([], 0)).2 (ws.take j)))), (13, .d (pairs l)), (14, .d (.int .i64 l.length)), (15, .d (.int .i64 i)), (21, .d (pairs ws)), (22, .d (.int .i64 ws.length)), (23, .d (.int .i64 j))] [(6, seqB 78 2 pF ([], 0) (exL (l.take i) ws)), (9, .cells 78 [.d (.str (l.getD i ([], 0)).1), .d (.int .i64 (l.getD i ([], 0)).2)])]) (fun j => ws.length - j) 0 (by omega) (by refine Entails.mk' [(6, 6), (9, 9)] rfl rfl ?_ ?_ <;> repeat' (first | exact True.intro | exact SV.le_refl _ | exact Res.le_refl _ | exact SV.le_int (by omega) | exact SV.le_any _ | refine And.intro ?_ ?_)) ?_
    rintro j q1
    have e2 : (j : Int).toNat = j := Int.toNat_natCast j
    have b1 := payW_le (l.getD i ([], 0)).1 (ws.take j) (l.getD i ([], 0)).2 (fun y hy => (n4 y (List.mem_of_mem_take hy)).1) hx.1
    have b2 := exL_len (l.take i) ws
    rw [List.length_take, Nat.min_eq_left (by omega)] at b2
    conv => whnf
    repeat' (first
      | (refine br_intro (fun hb => ?_) (fun hb => ?_) <;> (try simp only [decide_eq_true_eq, decide_eq_false_iff_not, Bool.not_eq_true', Bool.not_eq_false', Bool.and_eq_true, Bool.or_eq_true, beq_iff_eq, not_and, Int.not_le, Int.not_lt, Int.toNat_natCast, beq_eq_false_iff_ne, ne_eq, eq_self, not_true_eq_false, not_false_eq_true] at hb) <;> (conv => whnf))
      | omega
      | (refine And.intro ?_ ?_; ((try dsimp only); first | omega | (refine ⟨by omega, by omega, Int.le_trans (Int.mul_le_mul_of_nonneg_right (Int.ofNat_le.2 (Nat.le_of_ble_eq_true (rfl : Nat.ble _ 1024 = true))) (by omega)) (by omega), by omega⟩) | (refine Nat.le_trans (Nat.mul_le_mul_left _ (Nat.le_of_ble_eq_true (rfl : Nat.ble _ 1024 = true))) ?_; omega) | (unfold inI64; omega) | (constructor <;> omega) | (simp only [inI64, List.length_cons, List.length_append, List.length_nil, List.length_set] at *; omega) | decide | (unfold inI64; decide)); conv => whnf)
      | omega | decide | assumption)
    · have hj : j < ws.length := by omega
      exact ⟨j + 1, by omega, by omega, (by refine Entails.mk' [(6, 6), (9, 9)] rfl rfl ?_ ?_ <;> repeat' (first | exact True.intro | exact SV.le_refl _ | exact Res.le_refl _ | (refine SV.le_int ?_; rw [payW_snoc hj, if_pos hb]; rfl) | exact SV.le_int (by omega) | exact SV.le_any _ | refine And.intro ?_ ?_))⟩
    · have hj : j < ws.length := by omega
      exact ⟨j + 1, by omega, by omega, (by refine Entails.mk' [(6, 6), (9, 9)] rfl rfl ?_ ?_ <;> repeat' (first | exact True.intro | exact SV.le_refl _ | exact Res.le_refl _ | (refine SV.le_int ?_; rw [payW_snoc hj, if_neg hb]) | exact SV.le_int (by omega) | exact SV.le_any _ | refine And.intro ?_ ?_))⟩
    · refine ⟨i + 1, by omega, by omega, ?_⟩
      refine Entails.mk' [(6, 6)] rfl rfl ⟨SV.le_refl _, SV.le_refl _, SV.le_int ?_, SV.le_refl _, SV.le_refl _, SV.le_refl _, trivial⟩ ⟨?_, trivial⟩
      · rw [exN_snoc hi, if_pos hb, Int.sub_zero]
      · rw [exL_snoc hi, if_pos hb, List.append_nil]; exact Res.le_refl _
    · have : j = ws.length := by omega
      subst this
      rw [List.take_length]
      refine ⟨i + 1, by omega, by omega, ?_⟩
      refine Entails.mk' [(6, 46)] rfl rfl ⟨SV.le_refl _, SV.le_refl _, SV.le_int ?_, SV.le_refl _, SV.le_refl _, SV.le_refl _, trivial⟩ ⟨?_, trivial⟩
      · rw [exN_snoc hi, if_neg (by assumption)]
      · rw [exL_snoc hi, if_neg (by assumption)]; exact Res.le_snocF (by rfl)
  · have : i = l.length := by omega
    subst this
    rw [List.take_length]
    refine .freeze _ 6 78 2 _ _ rfl ?_
    refine .ret _ ?_
    conv => whnf
    refine ⟨[], ⟨congrArg SV.tup ?_, rfl⟩, trivial⟩
    repeat' (refine cons_eq ?_ ?_)
    all_goals (conv => lhs; whnf)
    all_goals try (with_reducible rfl)
end Go.Proofs.YtellmmmohdjpeaaDoor
set_option maxRecDepth 20000
namespace Go.Proofs.YtellmmmohdjpeaaDoor
open Go Go.Eng
theorem eq_of_getD {α : Type} {l m : List α} (d : α) (hl : l.length = m.length) (h : ∀ j, j < l.length → l.getD j d = m.getD j d) : l = m := by
  refine List.ext_getElem hl (fun i h1 h2 => ?_)
  have := h i h1
  rwa [List.getD_eq_getElem?_getD, List.getD_eq_getElem?_getD, List.getElem?_eq_getElem h1, List.getElem?_eq_getElem h2] at this
theorem all_step {p : Nat → Prop} {i : Nat} (h : ∀ j, j < i → p j) (h1 : p i) : ∀ j, j < i + 1 → p j := fun j hj => by
  rcases Nat.lt_or_ge j i with q | q
  · exact h j q
  · have : j = i := by omega
    subst this; exact h1
theorem pair_eq {a b : Pair} : a = b ↔ a.1 = b.1 ∧ a.2 = b.2 := by cases a; cases b; simp
-- slices.Equal of shares
theorem s44 (l m : List Pair) (hl : l.length ≤ 2^40) : FSpec Tryd.prog 44 [.d (pairs l), .d (pairs m)] [] (fun x r => x = .d (.bool (decide (l = m))) ∧ r = []) := by
  refine spec_of hT (C := []) Tryd.func44 rfl Tryd.call44 rfl rfl rfl ?_
  conv => whnf
  repeat' (first
    | (refine br_intro (fun hb => ?_) (fun hb => ?_) <;> (try simp only [decide_eq_true_eq, decide_eq_false_iff_not, Bool.not_eq_true', Bool.not_eq_false', Bool.and_eq_true, Bool.or_eq_true, beq_iff_eq, not_and, Int.not_le, Int.not_lt, Int.toNat_natCast, beq_eq_false_iff_ne, ne_eq, eq_self, not_true_eq_false, not_false_eq_true] at hb) <;> (conv => whnf))
    | (refine RegX.rule (id := 6) hT rfl [] [(0, []), (1, [0]), (2, []), (3, []), (4, [0, 1, 2, 3]), (5, [0, 1, 2, 3, 4]), (6, [0, 1, 2, 3]), (7, [0, 1, 2, 3]), (8, [])] (by decide +kernel) ?_; conv => whnf)
    | omega
    | (refine And.intro ?_ ?_; ((try dsimp only); first | omega | (refine ⟨by omega, by omega, Int.le_trans (Int.mul_le_mul_of_nonneg_right (Int.ofNat_le.2 (Nat.le_of_ble_eq_true (rfl : Nat.ble _ 1024 = true))) (by omega)) (by omega), by omega⟩) | (refine Nat.le_trans (Nat.mul_le_mul_left _ (Nat.le_of_ble_eq_true (rfl : Nat.ble _ 1024 = true))) ?_; omega) | (unfold inI64; omega) | (constructor <;> omega) | (simp only [inI64, List.length_cons, List.length_append, List.length_nil, List.length_set] at *; omega) | decide | (unfold inI64; decide)); conv => whnf)
    | omega | decide | assumption)
  · refine .ret _ ?_
    conv => whnf
    refine ⟨[], ⟨?_, rfl⟩, trivial⟩
    conv => lhs; whnf
    have : ¬ l = m := fun q => by subst q; simp at hb
    simp [this]
  have hlen : l.length = m.length := by
    omega
  refine LoopX.rule hT (C := []) (ι := Nat) (fun i => i ≤ l.length ∧ ∀ j, j < i → l.getD j ([], 0) = m.getD j ([], 0)) (fun i => mkSt [(0, .d (pairs l)), (1, .d (pairs m)), (12, .d (.int .i64 l.length)), (13, .d (.int .i64 i))] []) (fun i => l.length - i) 0 ⟨by omega, by omega⟩ (by refine Entails.mk' [] rfl rfl ?_ ?_ <;> repeat' (first | exact True.intro | exact SV.le_refl _ | exact Res.le_refl _ | exact SV.le_int (by omega) | exact SV.le_any _ | refine And.intro ?_ ?_)) ?_
  rintro i ⟨p1, p2⟩
  have e1 : (i : Int).toNat = i := Int.toNat_natCast i
  conv => whnf
  repeat' (first
    | (refine br_intro (fun hb => ?_) (fun hb => ?_) <;> (try simp only [decide_eq_true_eq, decide_eq_false_iff_not, Bool.not_eq_true', Bool.not_eq_false', Bool.and_eq_true, Bool.or_eq_true, beq_iff_eq, not_and, Int.not_le, Int.not_lt, Int.toNat_natCast, beq_eq_false_iff_ne, ne_eq, eq_self, not_true_eq_false, not_false_eq_true] at hb) <;> (conv => whnf))
    | (refine RegX.rule (id := 6) hT rfl [] [(0, []), (1, [0]), (2, []), (3, []), (4, [0, 1, 2, 3]), (5, [0, 1, 2, 3, 4]), (6, [0, 1, 2, 3]), (7, [0, 1, 2, 3]), (8, [])] (by decide +kernel) ?_; conv => whnf)
    | omega
    | (refine And.intro ?_ ?_; ((try dsimp only); first | omega | (refine ⟨by omega, by omega, Int.le_trans (Int.mul_le_mul_of_nonneg_right (Int.ofNat_le.2 (Nat.le_of_ble_eq_true (rfl : Nat.ble _ 1024 = true))) (by omega)) (by omega), by omega⟩) | (refine Nat.le_trans (Nat.mul_le_mul_left _ (Nat.le_of_ble_eq_true (rfl : Nat.ble _ 1024 = true))) ?_; omega) | (unfold inI64; omega) | (constructor <;> omega) | (simp only [inI64, List.length_cons, List.length_append, List.length_nil, List.length_set] at *; omega) | decide | (unfold inI64; decide)); conv => whnf)
    | omega | decide | assumption)
  · refine .ret _ ?_
    conv => whnf
    refine ⟨[], ⟨?_, rfl⟩, trivial⟩
    conv => lhs; whnf
    have : ¬ l = m := fun q => by subst q; simp at hb
    simp [this]
  · exact ⟨i + 1, ⟨by omega, all_step p2 (by rw [pair_eq]; simpa using hb)⟩, by omega, (by refine Entails.mk' [] rfl rfl ?_ ?_ <;> repeat' (first | exact True.intro | exact SV.le_refl _ | exact Res.le_refl _ | exact SV.le_int (by omega) | exact SV.le_any _ | refine And.intro ?_ ?_))⟩
  · refine .ret _ ?_
    conv => whnf
    refine ⟨[], ⟨?_, rfl⟩, trivial⟩
    conv => lhs; whnf
    have : i = l.length := by omega
    subst this
    simp [eq_of_getD ([], 0) hlen p2]
theorem splitF_31 : splitF 3 [1, 1] = 0 := by decide +kernel
theorem splitG_31 : splitG 3 [1, 1] = [2, 1] := by decide +kernel
-- marked
theorem s42 : FSpec Tryd.prog 42 [] [] (fun x r => x = .d (.bool true) ∧ r = []) := by
  refine spec_of hT (C := []) Tryd.func42 rfl Tryd.call42 rfl rfl rfl ?_
  conv => whnf
  refine CallX.pure (s35 3 [1, 1] (by simp)) ⟨SV.le_refl _, SV.le_lit (by rfl) (by rfl), trivial⟩ rfl ?_
  rw [splitF_31, if_pos rfl, splitG_31]
  conv => whnf
  refine CallX.pure (s37 [2, 1] [2, 1] (by simp) (by simp)) ⟨SV.le_refl _, SV.le_lit (by rfl) (by rfl), trivial⟩ rfl ?_
  repeat' (first
    | (refine br_intro (fun hb => ?_) (fun hb => ?_) <;> (try simp only [decide_eq_true_eq, decide_eq_false_iff_not, Bool.not_eq_true', Bool.not_eq_false', Bool.and_eq_true, Bool.or_eq_true, beq_iff_eq, not_and, Int.not_le, Int.not_lt, Int.toNat_natCast, beq_eq_false_iff_ne, ne_eq, eq_self, not_true_eq_false, not_false_eq_true] at hb) <;> (conv => whnf))
    | omega
    | (refine And.intro ?_ ?_; ((try dsimp only); first | omega | (refine ⟨by omega, by omega, Int.le_trans (Int.mul_le_mul_of_nonneg_right (Int.ofNat_le.2 (Nat.le_of_ble_eq_true (rfl : Nat.ble _ 1024 = true))) (by omega)) (by omega), by omega⟩) | (refine Nat.le_trans (Nat.mul_le_mul_left _ (Nat.le_of_ble_eq_true (rfl : Nat.ble _ 1024 = true))) ?_; omega) | (unfold inI64; omega) | (constructor <;> omega) | (simp only [inI64, List.length_cons, List.length_append, List.length_nil, List.length_set] at *; omega) | decide | (unfold inI64; decide)); conv => whnf)
    | omega | decide | assumption)
  refine .ret _ ?_
  conv => whnf
  refine ⟨[], ⟨?_, rfl⟩, trivial⟩
  conv => lhs; whnf
  simp
/-- What the shares' maker gives. -/
def shOk (l : List Pair) (k : Nat) : Prop := l.length ≤ k ∧ ∀ p ∈ l, p.1.length ≤ 8
theorem shOk_snoc {l : List Pair} {k : Nat} {x : Pair} (h : shOk l k) (hx : x.1.length ≤ 8) : shOk (l ++ [x]) (k + 1) := by
  refine ⟨by rw [List.length_append]; simpa using h.1, fun p hp => ?_⟩
  rcases List.mem_append.1 hp with q | q
  · exact h.2 p q
  · simp at q; subst q; exact hx
theorem shOk_mono {l : List Pair} {k m : Nat} (h : shOk l k) (hk : k ≤ m) : shOk l m := ⟨by have := h.1; omega, h.2⟩
def keysL : List (List UInt8) := [[], [104, 49], [104, 50], [104, 51]]
-- Shares
theorem s39 (n : Nat) (L : Nat → Int) (hL : Rok n L) (a : Int) (h0 : 0 ≤ a) (ha : a ≤ 2^38) :
    FSpec Tryd.prog 39 [.ptr 1000000 0] [(1000000, strm n L a)] (fun y r => (∃ l w : List Pair, shOk l 5 ∧ shOk w 5 ∧ y = .tup [.d (pairs l), .d (pairs w)]) ∧ Moved n L a 40 r) := by
  refine spec_of hT (C := []) Tryd.func39 rfl Tryd.call39 rfl rfl rfl ?_
  conv => whnf
  refine LoopX.rule hT (C := []) (ι := Int × List Pair × List Pair × Nat) (fun (b, l, w, k) => (a ≤ b ∧ b ≤ a + 4 * k ∧ k ≤ 4) ∧ shOk l k ∧ shOk w k)
    (fun (b, l, w, k) => mkSt [(0, .ptr 1000000 0), (4, .buf 4), (5, .buf 5), (8, .d (strs keysL)), (9, .d (.int .i64 4)), (10, .d (.int .i64 k))] [(1000000, strm n L b), (4, seqB 78 2 pF ([], 0) l), (5, seqB 193 2 pF ([], 0) w)])
    (fun (_, _, _, k) => 4 - k) (a, [], [], 0) ⟨⟨by simp, by simp, by simp⟩, ⟨by simp, by simp⟩, ⟨by simp, by simp⟩⟩ ?_ ?_
  · exact (Entails.nil 4 4 78 2 (rowF pF ([], 0) []) rfl rfl (by decide)).trans ((Entails.nil 5 5 193 2 (rowF pF ([], 0) []) rfl rfl (by decide)).trans (by refine Entails.mk' [(1000000, 1000000), (4, 4), (5, 5)] rfl rfl ?_ ?_ <;> repeat' (first | exact True.intro | exact SV.le_refl _ | exact Res.le_refl _ | (exact SV.le_lit rfl rfl) | exact SV.le_int (by omega) | exact SV.le_any _ | refine And.intro ?_ ?_)))
  rintro ⟨b, l, w, k⟩ ⟨⟨p1, p2, p3⟩, q1, q2⟩
  have hkey : (keysL.getD (k : Int).toNat []).length ≤ 8 := by
    rw [Int.toNat_natCast]
    rcases (by omega : k = 0 ∨ k = 1 ∨ k = 2 ∨ k = 3 ∨ k = 4) with h | h | h | h | h <;> subst h <;> decide
  have hk4 : keysL.length = 4 := rfl
  have hl1 := q1.1
  have hl2 := q2.1
  conv => whnf
  repeat' (first
    | (refine CallX.of (s84 n L hL _ ?_ ?_ _ ?_) [(1000000, 1000000)] rfl ⟨SV.le_refl _, SV.le_refl _, trivial⟩ ⟨Res.le_refl _, trivial⟩ rfl rfl ?_; rotate_right; rintro x rout ⟨⟨f, rfl⟩, ⟨c, c1, c2, rfl⟩⟩; refine ⟨rfl, ?_⟩; conv => whnf)
    | (refine CallX.of (s33 n L hL _ ?_ ?_ [0, 5, 100, 3000] ?_ ?_) [(1000000, 1000000)] rfl ⟨SV.le_refl _, SV.le_lit rfl rfl, trivial⟩ ⟨Res.le_refl _, trivial⟩ rfl rfl ?_; rotate_right; rintro x rout ⟨⟨j, hj, rfl⟩, ⟨c, c1, c2, rfl⟩⟩; refine ⟨rfl, ?_⟩; conv => whnf)
    | (refine CallX.of (s33 n L hL _ ?_ ?_ [0, 5, 99, 5000] ?_ ?_) [(1000000, 1000000)] rfl ⟨SV.le_refl _, SV.le_lit rfl rfl, trivial⟩ ⟨Res.le_refl _, trivial⟩ rfl rfl ?_; rotate_right; rintro x rout ⟨⟨j, hj, rfl⟩, ⟨c, c1, c2, rfl⟩⟩; refine ⟨rfl, ?_⟩; conv => whnf)
    | (refine CallX.of (s104 n L hL _ ?_ ?_ _ _ ?_ ?_ ?_) [(1000000, 1000000)] rfl ⟨SV.le_refl _, SV.le_refl _, SV.le_refl _, trivial⟩ ⟨Res.le_refl _, trivial⟩ rfl rfl ?_; rotate_right; rintro x rout ⟨⟨j, hj1, hj2, rfl⟩, ⟨c, c1, c2, rfl⟩⟩; refine ⟨rfl, ?_⟩; conv => whnf)
    | (refine CallX.of (s15 n L hL _ ?_ ?_ [[65], [104, 49], [104, 57]] ?_ ?_) [(1000000, 1000000)] rfl ⟨SV.le_refl _, SV.le_lit rfl rfl, trivial⟩ ⟨Res.le_refl _, trivial⟩ rfl rfl ?_; rotate_right; rintro x rout ⟨⟨j, hj, rfl⟩, ⟨c, c1, c2, rfl⟩⟩; refine ⟨rfl, ?_⟩; conv => whnf)
    | (refine CallX.of (s15 n L hL _ ?_ ?_ [[], [104, 49], [104, 57]] ?_ ?_) [(1000000, 1000000)] rfl ⟨SV.le_refl _, SV.le_lit rfl rfl, trivial⟩ ⟨Res.le_refl _, trivial⟩ rfl rfl ?_; rotate_right; rintro x rout ⟨⟨j, hj, rfl⟩, ⟨c, c1, c2, rfl⟩⟩; refine ⟨rfl, ?_⟩; conv => whnf)
    | (refine br_intro (fun hb => ?_) (fun hb => ?_) <;> (try simp only [decide_eq_true_eq, decide_eq_false_iff_not, Bool.not_eq_true', Bool.not_eq_false', Bool.and_eq_true, Bool.or_eq_true, beq_iff_eq, not_and, Int.not_le, Int.not_lt, Int.toNat_natCast, beq_eq_false_iff_ne, ne_eq, eq_self, not_true_eq_false, not_false_eq_true] at hb) <;> (conv => whnf))
    | omega
    | (refine And.intro ?_ ?_; ((try dsimp only); first | omega | (refine ⟨by omega, by omega, Int.le_trans (Int.mul_le_mul_of_nonneg_right (Int.ofNat_le.2 (Nat.le_of_ble_eq_true (rfl : Nat.ble _ 1024 = true))) (by omega)) (by omega), by omega⟩) | (refine Nat.le_trans (Nat.mul_le_mul_left _ (Nat.le_of_ble_eq_true (rfl : Nat.ble _ 1024 = true))) ?_; omega) | (unfold inI64; omega) | (constructor <;> omega) | (simp only [inI64, List.length_cons, List.length_append, List.length_nil, List.length_set] at *; omega) | decide | (unfold inI64; decide)); conv => whnf)
    | omega | decide | assumption)
  all_goals try first
    | refine ⟨(_, _, _, k + 1), ?_, ?_, Entails.mk' [(1000000, 1000000), (4, 4), (5, 5)] rfl rfl ⟨SV.le_refl _, SV.le_refl _, SV.le_refl _, SV.le_refl _, SV.le_refl _, SV.le_refl _, trivial⟩ ⟨Res.le_refl _, Res.le_refl _, Res.le_refl _, trivial⟩⟩
    | refine ⟨(_, _, _, k + 1), ?_, ?_, Entails.mk' [(1000000, 1000000), (4, 24), (5, 5)] rfl rfl ⟨SV.le_refl _, SV.le_refl _, SV.le_refl _, SV.le_refl _, SV.le_refl _, SV.le_refl _, trivial⟩ ⟨Res.le_refl _, Res.le_snocF (x := (_, _)) rfl, Res.le_refl _, trivial⟩⟩
    | refine ⟨(_, _, _, k + 1), ?_, ?_, Entails.mk' [(1000000, 1000000), (4, 4), (5, 39)] rfl rfl ⟨SV.le_refl _, SV.le_refl _, SV.le_refl _, SV.le_refl _, SV.le_refl _, SV.le_refl _, trivial⟩ ⟨Res.le_refl _, Res.le_refl _, Res.le_snocF (x := (_, _)) rfl, trivial⟩⟩
    | refine ⟨(_, _, _, k + 1), ?_, ?_, Entails.mk' [(1000000, 1000000), (4, 24), (5, 39)] rfl rfl ⟨SV.le_refl _, SV.le_refl _, SV.le_refl _, SV.le_refl _, SV.le_refl _, SV.le_refl _, trivial⟩ ⟨Res.le_refl _, Res.le_snocF (x := (_, _)) rfl, Res.le_snocF (x := (_, _)) rfl, trivial⟩⟩
  all_goals try (refine ⟨⟨?_, ?_, ?_⟩, ?_, ?_⟩)
  all_goals try first
    | omega
    | (show 4 - (k + 1) < 4 - k; omega)
    | exact shOk_mono q1 (by omega)
    | exact shOk_mono q2 (by omega)
    | exact shOk_snoc q1 hkey
    | exact shOk_snoc q2 hkey
  all_goals try first
    | (refine .freeze _ 4 78 2 _ _ rfl (.freeze _ 5 193 2 _ _ rfl (.weak _ ?_)); (conv => whnf); refine ⟨_, [(1000000, strm n L _)], SV.le_tup (m := [_, _]) ⟨SV.le_refl _, SV.le_refl _, trivial⟩, ⟨⟨_, _, ?_, ?_, rfl⟩, _, ?_, ?_, rfl⟩, Res.le_refl _, trivial⟩)
    | (refine .freeze _ 4 78 2 _ _ rfl (.freeze _ 62 193 2 _ _ rfl (.weak _ ?_)); (conv => whnf); refine ⟨_, [(1000000, strm n L _)], SV.le_tup (m := [_, _]) ⟨SV.le_refl _, SV.le_snocF (x := (_, _)) rfl, trivial⟩, ⟨⟨_, _, ?_, ?_, rfl⟩, _, ?_, ?_, rfl⟩, Res.le_refl _, trivial⟩)
    | (refine .freeze _ 51 78 2 _ _ rfl (.freeze _ 5 193 2 _ _ rfl (.weak _ ?_)); (conv => whnf); refine ⟨_, [(1000000, strm n L _)], SV.le_tup (m := [_, _]) ⟨SV.le_snocF (x := (_, _)) rfl, SV.le_refl _, trivial⟩, ⟨⟨_, _, ?_, ?_, rfl⟩, _, ?_, ?_, rfl⟩, Res.le_refl _, trivial⟩)
    | (refine .freeze _ 51 78 2 _ _ rfl (.freeze _ 62 193 2 _ _ rfl (.weak _ ?_)); (conv => whnf); refine ⟨_, [(1000000, strm n L _)], SV.le_tup (m := [_, _]) ⟨SV.le_snocF (x := (_, _)) rfl, SV.le_snocF (x := (_, _)) rfl, trivial⟩, ⟨⟨_, _, ?_, ?_, rfl⟩, _, ?_, ?_, rfl⟩, Res.le_refl _, trivial⟩)
  all_goals try first
    | omega
    | exact shOk_mono q1 (by omega)
    | exact shOk_mono q2 (by omega)
    | exact shOk_mono (shOk_snoc q1 (by grind)) (by omega)
    | exact shOk_mono (shOk_snoc q2 (by grind)) (by omega)
end Go.Proofs.YtellmmmohdjpeaaDoor
set_option maxRecDepth 20000
namespace Go.Proofs.YtellmmmohdjpeaaDoor
open Go Go.Eng
theorem splitF_zero {c : Int} {w : List Int} (h : splitF c w = 0) : (0 ≤ c ∧ c ≤ 1000000000) ∧ (∀ x ∈ w, 0 ≤ x ∧ x ≤ 5761440) ∧ w.sum ≠ 0 := by
  unfold splitF at h
  split at h
  · omega
  rename_i h1
  split at h
  · omega
  split at h
  · omega
  rename_i h3
  split at h
  · omega
  rename_i h4
  refine ⟨by omega, fun x hx => ?_, h4⟩
  rw [List.any_eq_true] at h3
  exact Classical.byContradiction fun q => h3 ⟨x, hx, by simp; omega⟩
-- CentsSplit
theorem s5 (n : Nat) (L : Nat → Int) (hn : n ≤ maxLen) (hl : ∀ i, -2^63 ≤ L i ∧ L i < 2^63) : FSpec Tryd.prog 5 [.d (.ro 1 n fun i => [.int .i64 (L i)])] [] (fun x r => x = .d (.bool true) ∧ r = []) := by
  have hL : Rok n L := ⟨hn, hl⟩
  refine spec_of hT (C := []) Tryd.func5 rfl Tryd.call5 rfl rfl rfl ?_
  conv => whnf
  repeat' (first
    | (refine CallX.of (s33 n L hL _ ?_ ?_ [0, 1, 2, 99, 100, 101, 12345, 1000000000, -1] ?_ ?_) [(1000000, 18)] rfl ⟨SV.le_refl _, SV.le_lit rfl rfl, trivial⟩ ⟨Res.le_refl _, trivial⟩ rfl rfl ?_; rotate_right; rintro x rout ⟨⟨cents, hcents, rfl⟩, ⟨c, c1, c2, rfl⟩⟩; refine ⟨rfl, ?_⟩; conv => whnf)
    | (refine CallX.of (s34 n L hL _ ?_ ?_ ) [(1000000, 18)] rfl ⟨SV.le_refl _, trivial⟩ ⟨Res.le_refl _, trivial⟩ rfl rfl ?_; rotate_right; rintro x rout ⟨⟨w, w1, w2, w3, rfl⟩, ⟨c, c1, c2, rfl⟩⟩; refine ⟨rfl, ?_⟩; conv => whnf)
    | (refine br_intro (fun hb => ?_) (fun hb => ?_) <;> (try simp only [decide_eq_true_eq, decide_eq_false_iff_not, Bool.not_eq_true', Bool.not_eq_false', Bool.and_eq_true, Bool.or_eq_true, beq_iff_eq, not_and, Int.not_le, Int.not_lt, Int.toNat_natCast, beq_eq_false_iff_ne, ne_eq, eq_self, not_true_eq_false, not_false_eq_true] at hb) <;> (conv => whnf))
    | omega
    | (refine And.intro ?_ ?_; ((try dsimp only); first | omega | (refine ⟨by omega, by omega, Int.le_trans (Int.mul_le_mul_of_nonneg_right (Int.ofNat_le.2 (Nat.le_of_ble_eq_true (rfl : Nat.ble _ 1024 = true))) (by omega)) (by omega), by omega⟩) | (refine Nat.le_trans (Nat.mul_le_mul_left _ (Nat.le_of_ble_eq_true (rfl : Nat.ble _ 1024 = true))) ?_; omega) | (unfold inI64; omega) | (constructor <;> omega) | (simp only [inI64, List.length_cons, List.length_append, List.length_nil, List.length_set] at *; omega) | decide | (unfold inI64; decide)); conv => whnf)
    | omega | decide | assumption)
  have hone : ∀ l : List Pair, shOk l 5 → l.length ≤ 2^40 ∧ ∀ p ∈ l, p.1.length ≤ 2^40 := fun l h => ⟨by have := h.1; omega, fun p hp => by have := h.2 p hp; omega⟩
  by_cases hF : splitF cents w = 0
  · obtain ⟨f1, f2, f3⟩ := splitF_zero hF
    have f4 : 0 < w.sum := by have := sum_nonneg (l := w) fun x hx => (f2 x hx).1; omega
    have h35 := s35 cents w (by omega)
    rw [if_pos hF, hF] at h35
    have h36 := s36 cents w
    rw [hF] at h36
    have h38 := s38 cents w f1 f2 (by omega) f3
    have hge := splitG_eq cents w (left_bound cents w f1.1 (fun x hx => (f2 x hx).1) f4)
    rw [← hge] at h38
    have hlen : (splitG cents w).length ≤ 2^40 := by rw [hge, rngL, List.length_map, List.length_range]; omega
    repeat' (first
      | (refine CallX.exact (h35) rfl rfl ?_; rotate_right; conv => whnf)
      | (refine CallX.exact (h36) rfl rfl ?_; rotate_right; conv => whnf)
      | (refine CallX.exact (h38) rfl rfl ?_; rotate_right; conv => whnf)
      | (refine CallX.exact (s37 _ _ hlen hlen) rfl rfl ?_; rotate_right; conv => whnf)
      | (refine CallX.of (s39 n L hL _ ?_ ?_ ) [(1000000, 18)] rfl ⟨SV.le_refl _, trivial⟩ ⟨Res.le_refl _, trivial⟩ rfl rfl ?_; rotate_right; rintro x rout ⟨⟨l, ws, sh1, sh2, rfl⟩, ⟨c, c1, c2, rfl⟩⟩; refine ⟨rfl, ?_⟩; conv => whnf)
      | (refine br_intro (fun hb => ?_) (fun hb => ?_) <;> (try simp only [decide_eq_true_eq, decide_eq_false_iff_not, Bool.not_eq_true', Bool.not_eq_false', Bool.and_eq_true, Bool.or_eq_true, beq_iff_eq, not_and, Int.not_le, Int.not_lt, Int.toNat_natCast, beq_eq_false_iff_ne, ne_eq, eq_self, not_true_eq_false, not_false_eq_true] at hb) <;> (conv => whnf))
      | omega
      | (refine And.intro ?_ ?_; ((try dsimp only); first | omega | (refine ⟨by omega, by omega, Int.le_trans (Int.mul_le_mul_of_nonneg_right (Int.ofNat_le.2 (Nat.le_of_ble_eq_true (rfl : Nat.ble _ 1024 = true))) (by omega)) (by omega), by omega⟩) | (refine Nat.le_trans (Nat.mul_le_mul_left _ (Nat.le_of_ble_eq_true (rfl : Nat.ble _ 1024 = true))) ?_; omega) | (unfold inI64; omega) | (constructor <;> omega) | (simp only [inI64, List.length_cons, List.length_append, List.length_nil, List.length_set] at *; omega) | decide | (unfold inI64; decide)); conv => whnf)
      | omega | decide | assumption)
    clear h35 h36 h38 hge hlen
    have u1 := hone l sh1
    have u2 := hone ws sh2
    have h40 := s40 l ws u1.2 u1.1 u2.2 u2.1
    have h41 := s41 l ws u1.2 u1.1 u2.2 u2.1
    by_cases hX : exF l ws = 0
    · rw [if_pos hX, if_pos hX, hX] at h40
      rw [hX] at h41
      have hb1 : sharesE l = 0 := by unfold exF at hX; split at hX <;> assumption
      have hb2 : waivsE ws = 0 := by unfold exF at hX; rw [if_pos hb1] at hX; exact hX
      have h43 := s43 l ws (shares_zero hb1).1 (shares_zero hb1).2 (waivs_zero hb2).2 (waivs_zero hb2).1
      have h44 := s44 (exL l ws) (exL l ws) (by have := exL_len l ws; omega)
      repeat' (first
        | (refine CallX.exact (h40) rfl rfl ?_; rotate_right; conv => whnf)
        | (refine CallX.exact (h41) rfl rfl ?_; rotate_right; conv => whnf)
        | (refine CallX.exact (h43) rfl rfl ?_; rotate_right; conv => whnf)
        | (refine CallX.exact (h44) rfl rfl ?_; rotate_right; conv => whnf)
        | (refine CallX.exact (s42) rfl rfl ?_; rotate_right; conv => whnf)
        | (refine br_intro (fun hb => ?_) (fun hb => ?_) <;> (try simp only [decide_eq_true_eq, decide_eq_false_iff_not, Bool.not_eq_true', Bool.not_eq_false', Bool.and_eq_true, Bool.or_eq_true, beq_iff_eq, not_and, Int.not_le, Int.not_lt, Int.toNat_natCast, beq_eq_false_iff_ne, ne_eq, eq_self, not_true_eq_false, not_false_eq_true] at hb) <;> (conv => whnf))
        | omega
        | (refine And.intro ?_ ?_; ((try dsimp only); first | omega | (refine ⟨by omega, by omega, Int.le_trans (Int.mul_le_mul_of_nonneg_right (Int.ofNat_le.2 (Nat.le_of_ble_eq_true (rfl : Nat.ble _ 1024 = true))) (by omega)) (by omega), by omega⟩) | (refine Nat.le_trans (Nat.mul_le_mul_left _ (Nat.le_of_ble_eq_true (rfl : Nat.ble _ 1024 = true))) ?_; omega) | (unfold inI64; omega) | (constructor <;> omega) | (simp only [inI64, List.length_cons, List.length_append, List.length_nil, List.length_set] at *; omega) | decide | (unfold inI64; decide)); conv => whnf)
        | omega | decide | assumption)
      all_goals first
        | (refine .ret _ ?_
           conv => whnf
           refine ⟨[], ⟨?_, rfl⟩, trivial⟩
           conv => lhs; whnf
           all_goals (first | rfl | simp))
    · rw [if_neg hX, if_neg hX] at h40
      generalize exF l ws = e at h40 h41 hX
      repeat' (first
        | (refine CallX.exact (h40) rfl rfl ?_; rotate_right; conv => whnf)
        | (refine CallX.exact (h41) rfl rfl ?_; rotate_right; conv => whnf)
        | (refine CallX.exact (s42) rfl rfl ?_; rotate_right; conv => whnf)
        | (refine br_intro (fun hb => ?_) (fun hb => ?_) <;> (try simp only [decide_eq_true_eq, decide_eq_false_iff_not, Bool.not_eq_true', Bool.not_eq_false', Bool.and_eq_true, Bool.or_eq_true, beq_iff_eq, not_and, Int.not_le, Int.not_lt, Int.toNat_natCast, beq_eq_false_iff_ne, ne_eq, eq_self, not_true_eq_false, not_false_eq_true] at hb) <;> (conv => whnf))
        | omega
        | (refine And.intro ?_ ?_; ((try dsimp only); first | omega | (refine ⟨by omega, by omega, Int.le_trans (Int.mul_le_mul_of_nonneg_right (Int.ofNat_le.2 (Nat.le_of_ble_eq_true (rfl : Nat.ble _ 1024 = true))) (by omega)) (by omega), by omega⟩) | (refine Nat.le_trans (Nat.mul_le_mul_left _ (Nat.le_of_ble_eq_true (rfl : Nat.ble _ 1024 = true))) ?_; omega) | (unfold inI64; omega) | (constructor <;> omega) | (simp only [inI64, List.length_cons, List.length_append, List.length_nil, List.length_set] at *; omega) | decide | (unfold inI64; decide)); conv => whnf)
        | omega | decide | assumption)
      all_goals first
        | (refine .ret _ ?_
           conv => whnf
           refine ⟨[], ⟨?_, rfl⟩, trivial⟩
           conv => lhs; whnf
           all_goals (first | rfl | simp))
  · have h35 := s35 cents w (by omega)
    rw [if_neg hF] at h35
    have h36 := s36 cents w
    generalize splitF cents w = e at h35 h36 hF
    repeat' (first
      | (refine CallX.exact (h35) rfl rfl ?_; rotate_right; conv => whnf)
      | (refine CallX.exact (h36) rfl rfl ?_; rotate_right; conv => whnf)
      | (refine CallX.of (s39 n L hL _ ?_ ?_ ) [(1000000, 18)] rfl ⟨SV.le_refl _, trivial⟩ ⟨Res.le_refl _, trivial⟩ rfl rfl ?_; rotate_right; rintro x rout ⟨⟨l, ws, sh1, sh2, rfl⟩, ⟨c, c1, c2, rfl⟩⟩; refine ⟨rfl, ?_⟩; conv => whnf)
      | (refine br_intro (fun hb => ?_) (fun hb => ?_) <;> (try simp only [decide_eq_true_eq, decide_eq_false_iff_not, Bool.not_eq_true', Bool.not_eq_false', Bool.and_eq_true, Bool.or_eq_true, beq_iff_eq, not_and, Int.not_le, Int.not_lt, Int.toNat_natCast, beq_eq_false_iff_ne, ne_eq, eq_self, not_true_eq_false, not_false_eq_true] at hb) <;> (conv => whnf))
      | omega
      | (refine And.intro ?_ ?_; ((try dsimp only); first | omega | (refine ⟨by omega, by omega, Int.le_trans (Int.mul_le_mul_of_nonneg_right (Int.ofNat_le.2 (Nat.le_of_ble_eq_true (rfl : Nat.ble _ 1024 = true))) (by omega)) (by omega), by omega⟩) | (refine Nat.le_trans (Nat.mul_le_mul_left _ (Nat.le_of_ble_eq_true (rfl : Nat.ble _ 1024 = true))) ?_; omega) | (unfold inI64; omega) | (constructor <;> omega) | (simp only [inI64, List.length_cons, List.length_append, List.length_nil, List.length_set] at *; omega) | decide | (unfold inI64; decide)); conv => whnf)
      | omega | decide | assumption)
    clear h35 h36
    have u1 := hone l sh1
    have u2 := hone ws sh2
    have h40 := s40 l ws u1.2 u1.1 u2.2 u2.1
    have h41 := s41 l ws u1.2 u1.1 u2.2 u2.1
    by_cases hX : exF l ws = 0
    · rw [if_pos hX, if_pos hX, hX] at h40
      rw [hX] at h41
      have hb1 : sharesE l = 0 := by unfold exF at hX; split at hX <;> assumption
      have hb2 : waivsE ws = 0 := by unfold exF at hX; rw [if_pos hb1] at hX; exact hX
      have h43 := s43 l ws (shares_zero hb1).1 (shares_zero hb1).2 (waivs_zero hb2).2 (waivs_zero hb2).1
      have h44 := s44 (exL l ws) (exL l ws) (by have := exL_len l ws; omega)
      repeat' (first
        | (refine CallX.exact (h40) rfl rfl ?_; rotate_right; conv => whnf)
        | (refine CallX.exact (h41) rfl rfl ?_; rotate_right; conv => whnf)
        | (refine CallX.exact (h43) rfl rfl ?_; rotate_right; conv => whnf)
        | (refine CallX.exact (h44) rfl rfl ?_; rotate_right; conv => whnf)
        | (refine CallX.exact (s42) rfl rfl ?_; rotate_right; conv => whnf)
        | (refine br_intro (fun hb => ?_) (fun hb => ?_) <;> (try simp only [decide_eq_true_eq, decide_eq_false_iff_not, Bool.not_eq_true', Bool.not_eq_false', Bool.and_eq_true, Bool.or_eq_true, beq_iff_eq, not_and, Int.not_le, Int.not_lt, Int.toNat_natCast, beq_eq_false_iff_ne, ne_eq, eq_self, not_true_eq_false, not_false_eq_true] at hb) <;> (conv => whnf))
        | omega
        | (refine And.intro ?_ ?_; ((try dsimp only); first | omega | (refine ⟨by omega, by omega, Int.le_trans (Int.mul_le_mul_of_nonneg_right (Int.ofNat_le.2 (Nat.le_of_ble_eq_true (rfl : Nat.ble _ 1024 = true))) (by omega)) (by omega), by omega⟩) | (refine Nat.le_trans (Nat.mul_le_mul_left _ (Nat.le_of_ble_eq_true (rfl : Nat.ble _ 1024 = true))) ?_; omega) | (unfold inI64; omega) | (constructor <;> omega) | (simp only [inI64, List.length_cons, List.length_append, List.length_nil, List.length_set] at *; omega) | decide | (unfold inI64; decide)); conv => whnf)
        | omega | decide | assumption)
      all_goals first
        | (refine .ret _ ?_
           conv => whnf
           refine ⟨[], ⟨?_, rfl⟩, trivial⟩
           conv => lhs; whnf
           all_goals (first | rfl | simp))
    · rw [if_neg hX, if_neg hX] at h40
      generalize exF l ws = e at h40 h41 hX
      repeat' (first
        | (refine CallX.exact (h40) rfl rfl ?_; rotate_right; conv => whnf)
        | (refine CallX.exact (h41) rfl rfl ?_; rotate_right; conv => whnf)
        | (refine CallX.exact (s42) rfl rfl ?_; rotate_right; conv => whnf)
        | (refine br_intro (fun hb => ?_) (fun hb => ?_) <;> (try simp only [decide_eq_true_eq, decide_eq_false_iff_not, Bool.not_eq_true', Bool.not_eq_false', Bool.and_eq_true, Bool.or_eq_true, beq_iff_eq, not_and, Int.not_le, Int.not_lt, Int.toNat_natCast, beq_eq_false_iff_ne, ne_eq, eq_self, not_true_eq_false, not_false_eq_true] at hb) <;> (conv => whnf))
        | omega
        | (refine And.intro ?_ ?_; ((try dsimp only); first | omega | (refine ⟨by omega, by omega, Int.le_trans (Int.mul_le_mul_of_nonneg_right (Int.ofNat_le.2 (Nat.le_of_ble_eq_true (rfl : Nat.ble _ 1024 = true))) (by omega)) (by omega), by omega⟩) | (refine Nat.le_trans (Nat.mul_le_mul_left _ (Nat.le_of_ble_eq_true (rfl : Nat.ble _ 1024 = true))) ?_; omega) | (unfold inI64; omega) | (constructor <;> omega) | (simp only [inI64, List.length_cons, List.length_append, List.length_nil, List.length_set] at *; omega) | decide | (unfold inI64; decide)); conv => whnf)
        | omega | decide | assumption)
      all_goals first
        | (refine .ret _ ?_
           conv => whnf
           refine ⟨[], ⟨?_, rfl⟩, trivial⟩
           conv => lhs; whnf
           all_goals (first | rfl | simp))
end Go.Proofs.YtellmmmohdjpeaaDoor
