/- PricesBound is proved: for every input the law returns true, and its argument reads afterwards as it read before. Conditions: those of the given row alone. -/
import Derived.Test.YteehenjdddlnnaaGreatDoorPbdConOne
import Derived.Test.YteehenjdddlnnaaGreatDoorPbdEngTwo
import Derived.Shelf.Small.Strs
import Derived.Test.YteehenjdddlnnaaGreatDoorProg
import Derived.Test.YteehenjdddlnnaaGreatDoorPbdEngMap
set_option linter.unusedVariables false
set_option linter.unusedSimpArgs false
set_option maxRecDepth 20000
namespace Go.Proofs.YteehenjdddlnnaaGreatDoor
open Go Go.Eng
theorem endsC_lt {a b c d : List UInt8} : endsC a b c d < 0 ↔ endLt a b c d := by
 refine ⟨endLt_of, fun h => ?_⟩
 unfold endsC
 simp only [firstE, cmpS]
 rcases h with h | ⟨rfl, h⟩
 · simp [h]
 · simp [h, less_irr]
theorem cmpS_sw (a b : List UInt8) : cmpS a b = - cmpS b a := by
 unfold cmpS
 by_cases e : a = b
 · subst e; simp [less_irr]
 · cases q : Op.bytesLess a b
   · have := less_tri _ _ q e
     simp [this]
   · have : Op.bytesLess b a = false := by
      cases w : Op.bytesLess b a
      · rfl
      · have := less_trans q w
        rw [less_irr] at this; cases this
     simp [this]
theorem endsC_sw (a b c d : List UInt8) : endsC a b c d = - endsC c d a b := by
 unfold endsC
 rw [cmpS_sw a c, cmpS_sw b d]
 simp only [firstE]
 grind
theorem endsC_zero {a b c d : List UInt8} : endsC a b c d = 0 ↔ a = c ∧ b = d := by
 constructor
 · intro h
   have h1 : ¬ endsC a b c d < 0 := by omega
   have h2 : ¬ endsC c d a b < 0 := by have := endsC_sw a b c d; omega
   rw [endsC_lt] at h1 h2
   unfold endLt at h1 h2
   have ha : a = c := Classical.byContradiction fun q => by
    cases w : Op.bytesLess a c
    · exact h2 (.inl (less_tri _ _ w q))
    · exact h1 (.inl w)
   subst ha
   refine ⟨rfl, Classical.byContradiction fun q => ?_⟩
   cases w : Op.bytesLess b d
   · exact h2 (.inr ⟨rfl, less_tri _ _ w q⟩)
   · exact h1 (.inr ⟨rfl, w⟩)
 · rintro ⟨rfl, rfl⟩; exact endsC_self a b
def sgnI (n : Int) : Int := if n < 0 then -1 else if 0 < n then 1 else 0
def mvC (p q : Mov) : Int := if endsC p.a p.b q.a q.b = 0 then sgnI (p.many - q.many) else endsC p.a p.b q.a q.b
theorem sgnI_lt {n : Int} : sgnI n < 0 ↔ n < 0 := by unfold sgnI; split <;> (try split) <;> omega
theorem sgnI_gt {n : Int} : 0 < sgnI n ↔ 0 < n := by unfold sgnI; split <;> (try split) <;> omega
theorem sgnI_eq {n : Int} : sgnI n = 0 ↔ n = 0 := by unfold sgnI; split <;> (try split) <;> omega
theorem mvC_ord : COrd mvC := by
 refine ⟨fun p q => ?_, fun p q => ?_, fun p q r => ?_⟩
 · unfold mvC
   by_cases h : endsC p.a p.b q.a q.b = 0
   · rw [if_pos h, sgnI_eq]
     obtain ⟨h1, h2⟩ := endsC_zero.1 h
     cases p; cases q
     simp only at h1 h2
     subst h1; subst h2
     simp only [Mov.mk.injEq, true_and]
     omega
   · rw [if_neg h]
     constructor
     · exact fun z => absurd z h
     · rintro rfl; exact absurd (endsC_self _ _) h
 · unfold mvC
   have e := endsC_sw p.a p.b q.a q.b
   by_cases h : endsC p.a p.b q.a q.b = 0
   · have h2 : endsC q.a q.b p.a p.b = 0 := by omega
     rw [if_pos h, if_pos h2, sgnI_lt, sgnI_gt]; omega
   · have h2 : ¬ endsC q.a q.b p.a p.b = 0 := by omega
     rw [if_neg h, if_neg h2]; omega
 · unfold mvC
   intro h1 h2
   by_cases a : endsC p.a p.b q.a q.b = 0
   · rw [if_pos a, sgnI_lt] at h1
     obtain ⟨e1, e2⟩ := endsC_zero.1 a
     rw [e1, e2]
     by_cases b : endsC q.a q.b r.a r.b = 0
     · rw [if_pos b, sgnI_lt] at h2
       rw [if_pos b, sgnI_lt]; omega
     · rw [if_neg b] at h2 ⊢; exact h2
   · rw [if_neg a] at h1
     by_cases b : endsC q.a q.b r.a r.b = 0
     · obtain ⟨e1, e2⟩ := endsC_zero.1 b
       rw [← e1, ← e2, if_neg a]; exact h1
     · rw [if_neg b] at h2
       have h3 := endsC_lt.2 (endLt_trans (endsC_lt.1 h1) (endsC_lt.1 h2))
       rw [if_neg (by omega)]; exact h3
theorem mvC_many {a b : List UInt8} {u v : Int} (h : u < v) : mvC ⟨a, b, u⟩ ⟨a, b, v⟩ < 0 := by
 unfold mvC; rw [if_pos (endsC_self a b), sgnI_lt]; show u - v < 0; omega
theorem mvC_ends {a b c d : List UInt8} {u v : Int} (h : endLt a b c d) : mvC ⟨a, b, u⟩ ⟨c, d, v⟩ < 0 := by
 have := endsC_lt.2 h
 unfold mvC
 rw [if_neg (by show ¬ endsC a b c d = 0; omega)]; exact this
structure Ar3 where
 fr : Nat
 to : Nat
 car : Int
def a30 : Ar3 := ⟨0, 0, 0⟩
def manyP (n : List Ned) (i : Nat) : Int := (n.getD i nd0).many
def wayO (n : List Ned) (r : List Roa) (i k : Nat) : Option Int := (roadO r (n.getD i nd0).st (n.getD k nd0).st).map (·.car)
def arRow (n : List Ned) (r : List Roa) (i : Nat) : List Ar3 := (List.range n.length).filterMap fun k => if 0 < manyP n i ∧ manyP n k < 0 then (wayO n r i k).map fun c => ⟨i, k, c⟩ else none
def arL (n : List Ned) (r : List Roa) : List Ar3 := (List.range n.length).flatMap (arRow n r)
def srcL (n : List Ned) : List Nat := (List.range n.length).filter fun i => decide (0 < manyP n i)
def dstL (n : List Ned) : List Nat := (List.range n.length).filter fun i => decide (manyP n i < 0)
def arRow2 (n : List Ned) (r : List Roa) (i : Nat) : List Ar3 := (dstL n).filterMap fun k => (wayO n r i k).map fun c => ⟨i, k, c⟩
theorem fm_filter {α β : Type} (p : α → Bool) (f : α → Option β) : ∀ l : List α, l.filterMap (fun x => if p x = true then f x else none) = (l.filter p).filterMap f
 | [] => rfl
 | x :: l => by
   rw [List.filterMap_cons, List.filter_cons]
   by_cases h : p x = true
   · rw [if_pos h, if_pos h, List.filterMap_cons, fm_filter p f l]
   · rw [if_neg h, if_neg h, fm_filter p f l]
theorem flatMap_filter {α β : Type} (p : α → Bool) (f g : α → List β) (h1 : ∀ x, p x = true → f x = g x) (h2 : ∀ x, p x = false → f x = []) : ∀ l : List α, l.flatMap f = (l.filter p).flatMap g
 | [] => rfl
 | x :: l => by
   rw [List.flatMap_cons, List.filter_cons, flatMap_filter p f g h1 h2 l]
   cases h : p x
   · rw [if_neg (by simp), h2 x h]; rfl
   · rw [if_pos rfl, h1 x h, List.flatMap_cons]
theorem arL_eq (n : List Ned) (r : List Roa) : arL n r = (srcL n).flatMap (arRow2 n r) := by
 unfold arL srcL
 refine flatMap_filter _ _ _ (fun i h => ?_) (fun i h => ?_) _
 · unfold arRow arRow2 dstL
   rw [decide_eq_true_eq] at h
   rw [← fm_filter]
   congr 1
   funext k
   by_cases q : manyP n k < 0
   · rw [if_pos ⟨h, q⟩, if_pos (by simpa using q)]
   · rw [if_neg (fun z => q z.2), if_neg (by simpa using q)]
 · unfold arRow
   rw [decide_eq_false_iff_not] at h
   rw [List.filterMap_eq_nil_iff]
   intro k _
   rw [if_neg (fun z => h z.1)]
def nwG (n : List Ned) (r : List Roa) : Nw := ⟨(arL n r).length, n.length, fun k => ((arL n r).getD k a30).fr, fun k => ((arL n r).getD k a30).to, fun k => ((arL n r).getD k a30).car⟩
def kindB (n : List Ned) (v : Nat) : Bool := !decide (manyP n v < 0)
theorem arL_mem {n : List Ned} {r : List Roa} {x : Ar3} (h : x ∈ arL n r) : (x.fr < n.length ∧ 0 < manyP n x.fr) ∧ (x.to < n.length ∧ manyP n x.to < 0) ∧ wayO n r x.fr x.to = some x.car := by
 unfold arL at h
 rw [List.mem_flatMap] at h
 obtain ⟨i, hi, h⟩ := h
 unfold arRow at h
 rw [List.mem_filterMap] at h
 obtain ⟨k, hk, h⟩ := h
 rw [List.mem_range] at hi hk
 split at h
 · rename_i q
   rw [Option.map_eq_some_iff] at h
   obtain ⟨c, hc, rfl⟩ := h
   exact ⟨⟨hi, q.1⟩, ⟨hk, q.2⟩, hc⟩
 · cases h
theorem nwG_at {n : List Ned} {r : List Roa} {k : Nat} (hk : k < (nwG n r).K) : (arL n r).getD k a30 ∈ arL n r := getD_mem hk
theorem nwG_ok {n : List Ned} {r : List Roa} (hr : rdsE r = 0) : (nwG n r).Ok ∧ ∀ k, k < (nwG n r).K → (nwG n r).c k ≤ 1000000 := by
 have hc : ∀ k, k < (nwG n r).K → 0 ≤ (nwG n r).c k ∧ (nwG n r).c k ≤ 1000000 := fun k hk => by
  have h := (arL_mem (nwG_at hk)).2.2
  unfold wayO at h
  rw [Option.map_eq_some_iff] at h
  obtain ⟨x, hx, e⟩ := h
  have := (roadO_bd hr hx).1
  show 0 ≤ ((arL n r).getD k a30).car ∧ ((arL n r).getD k a30).car ≤ 1000000
  omega
 exact ⟨⟨fun k hk => (arL_mem (nwG_at hk)).1.1, fun k hk => (arL_mem (nwG_at hk)).2.1.1, fun k hk => (hc k hk).1⟩, fun k hk => (hc k hk).2⟩
theorem nwG_bip (n : List Ned) (r : List Roa) : (nwG n r).Bip (kindB n) := by
 refine ⟨fun k hk => ⟨(arL_mem (nwG_at hk)).1.1, ?_⟩, fun k hk => ⟨(arL_mem (nwG_at hk)).2.1.1, ?_⟩⟩
 · have := (arL_mem (nwG_at hk)).1.2
   unfold kindB
   show (!decide (manyP n ((arL n r).getD k a30).fr < 0)) = true
   rw [decide_eq_false (by omega)]; rfl
 · have := (arL_mem (nwG_at hk)).2.1.2
   unfold kindB
   show (!decide (manyP n ((arL n r).getD k a30).to < 0)) = false
   rw [decide_eq_true this]; rfl
def nsN (n : List Ned) (i : Nat) : Nat := (srcL n).getD i 0
def nwN (n : List Ned) (k : Nat) : Nat := (dstL n).getD k 0
def stnN (n : List Ned) (r : List Roa) (i : Nat) : Stn Mov := ⟨fun k => wayO n r (nsN n i) (nwN n k), fun k v => ⟨(n.getD (nsN n i) nd0).st, (n.getD (nwN n k) nd0).st, v⟩, manyP n (nsN n i)⟩
def mvN (n : List Ned) (r : List Roa) (a : Nat) (v : Int) : Mov := ⟨(n.getD ((arL n r).getD a a30).fr nd0).st, (n.getD ((arL n r).getD a a30).to nd0).st, v⟩
def rowK (n : List Ned) (r : List Roa) (i k : Nat) : List Ar3 := ((dstL n).take k).filterMap fun k => (wayO n r i k).map fun c => ⟨i, k, c⟩
def posN (n : List Ned) (r : List Roa) (i k : Nat) : Nat := (((srcL n).take i).flatMap (arRow2 n r)).length + (rowK n r (nsN n i) k).length
theorem srcL_at {n : List Ned} {i : Nat} (h : i < (srcL n).length) : nsN n i < n.length ∧ 0 < manyP n (nsN n i) := by
 have : nsN n i ∈ srcL n := getD_mem h
 unfold srcL at this
 rw [List.mem_filter, List.mem_range, decide_eq_true_eq] at this
 exact this
theorem dstL_at {n : List Ned} {i : Nat} (h : i < (dstL n).length) : nwN n i < n.length ∧ manyP n (nwN n i) < 0 := by
 have : nwN n i ∈ dstL n := getD_mem h
 unfold dstL at this
 rw [List.mem_filter, List.mem_range, decide_eq_true_eq] at this
 exact this
theorem nodup_getD {l : List Nat} (h : l.Nodup) {i j : Nat} (hi : i < l.length) (hj : j < l.length) (e : l.getD i 0 = l.getD j 0) : i = j := by
 rw [List.getD_eq_getElem?_getD, List.getD_eq_getElem?_getD, List.getElem?_eq_getElem hi, List.getElem?_eq_getElem hj] at e
 simp only [Option.getD_some] at e
 have hp := List.pairwise_iff_getElem.1 h
 rcases Nat.lt_trichotomy i j with q | q | q
 · exact absurd e (hp i j hi hj q)
 · exact q
 · exact absurd e.symm (hp j i hj hi q)
theorem srcL_nodup (n : List Ned) : (srcL n).Nodup := List.Pairwise.filter _ List.nodup_range
theorem dstL_nodup (n : List Ned) : (dstL n).Nodup := List.Pairwise.filter _ List.nodup_range
theorem take_getD {α : Type} {l : List α} {i : Nat} {d : α} (h : i < l.length) : l.take (i + 1) = l.take i ++ [l.getD i d] := by
 rw [List.take_add_one, List.getD_eq_getElem?_getD, List.getElem?_eq_getElem h]; rfl
theorem split_getD {α : Type} {l : List α} {i : Nat} {d : α} (h : i < l.length) : l = l.take i ++ l.getD i d :: l.drop (i + 1) := by
 have e : l.drop i = l.getD i d :: l.drop (i + 1) := by
  rw [List.drop_eq_getElem_cons h, List.getD_eq_getElem?_getD, List.getElem?_eq_getElem h]; rfl
 rw [← e, List.take_append_drop]
theorem rowK_all (n : List Ned) (r : List Roa) (i : Nat) : rowK n r i (dstL n).length = arRow2 n r i := by
 unfold rowK arRow2; rw [List.take_length]
theorem rowK_succ {n : List Ned} {r : List Roa} {i k : Nat} (hk : k < (dstL n).length) : rowK n r i (k + 1) = rowK n r i k ++ (match wayO n r i (nwN n k) with
 | none => []
 | some c => [⟨i, nwN n k, c⟩]) := by
 unfold rowK
 rw [take_getD (d := 0) hk, List.filterMap_append]
 congr 1
 show List.filterMap _ [nwN n k] = _
 rw [List.filterMap_cons]
 cases wayO n r i (nwN n k) <;> rfl
theorem posN_at {n : List Ned} {r : List Roa} {i k : Nat} {c : Int} (hi : i < (srcL n).length) (hk : k < (dstL n).length) (hw : wayO n r (nsN n i) (nwN n k) = some c) : (arL n r)[posN n r i k]? = some ⟨nsN n i, nwN n k, c⟩ := by
 have e1 : arL n r = ((srcL n).take i).flatMap (arRow2 n r) ++ (arRow2 n r (nsN n i) ++ ((srcL n).drop (i + 1)).flatMap (arRow2 n r)) := by
  rw [arL_eq]
  conv => lhs; rw [split_getD (d := 0) hi]
  rw [List.flatMap_append, List.flatMap_cons]; rfl
 have e2 : arRow2 n r (nsN n i) = rowK n r (nsN n i) k ++ (⟨nsN n i, nwN n k, c⟩ :: ((dstL n).drop (k + 1)).filterMap fun k => (wayO n r (nsN n i) k).map fun c => ⟨nsN n i, k, c⟩) := by
  unfold arRow2 rowK
  conv => lhs; rw [split_getD (d := 0) hk]
  rw [List.filterMap_append, List.filterMap_cons]
  have hw : wayO n r (nsN n i) ((dstL n).getD k 0) = some c := hw
  rw [hw]; rfl
 rw [e1, e2]
 unfold posN
 rw [List.getElem?_append_right (by omega), Nat.add_sub_cancel_left, List.append_assoc, List.getElem?_append_right (by omega), Nat.sub_self]; rfl
theorem layN (n : List Ned) (r : List Roa) : Lay (nwG n r) (kindB n) (srcL n).length (dstL n).length (nsN n) (nwN n) (stnN n r) (mvN n r) (posN n r) := by
 refine ⟨?_, fun i hi => ?_, fun i k hi hk hw => ?_, fun i k car hi hk hw => ?_, fun i hi => ?_, fun i j hi hj e => nodup_getD (srcL_nodup n) hi hj e, fun k hk => ?_, fun k j hk hj e => nodup_getD (dstL_nodup n) hk hj e, fun v hv hb => ?_⟩
 · show posN n r (srcL n).length 0 = (arL n r).length
   unfold posN
   rw [List.take_length, ← arL_eq]; rfl
 · unfold posN
   rw [take_getD (d := 0) hi, List.flatMap_append, rowK_all]
   show (_ ++ List.flatMap (arRow2 n r) [nsN n i]).length + 0 = _
   rw [List.length_append, List.flatMap_cons, List.flatMap_nil, List.append_nil]; rfl
 · have hw : wayO n r (nsN n i) (nwN n k) = none := hw
   unfold posN
   rw [rowK_succ hk, hw, List.append_nil]
 · have hw : wayO n r (nsN n i) (nwN n k) = some car := hw
   have h := posN_at hi hk hw
   have hl : posN n r i k < (arL n r).length := (List.getElem?_eq_some_iff.1 h).1
   have hg : (arL n r).getD (posN n r i k) a30 = ⟨nsN n i, nwN n k, car⟩ := by rw [List.getD_eq_getElem?_getD, h]; rfl
   refine ⟨?_, hl, ?_, ?_, ?_, fun v => ?_⟩
   · unfold posN
     rw [rowK_succ hk, hw, List.length_append]; rfl
   · show ((arL n r).getD (posN n r i k) a30).fr = _; rw [hg]
   · show ((arL n r).getD (posN n r i k) a30).to = _; rw [hg]
   · show ((arL n r).getD (posN n r i k) a30).car = _; rw [hg]
   · unfold mvN stnN; rw [hg]
 · have := srcL_at hi
   refine ⟨this.1, ?_⟩
   unfold kindB
   rw [decide_eq_false (by omega)]; rfl
 · have := dstL_at hk
   refine ⟨this.1, ?_⟩
   unfold kindB
   rw [decide_eq_true this.2]; rfl
 · unfold kindB at hb
   have hb : manyP n v < 0 := by simpa using hb
   have : v ∈ dstL n := by
    unfold dstL
    rw [List.mem_filter, List.mem_range, decide_eq_true_eq]
    exact ⟨hv, hb⟩
   obtain ⟨k, hk, e⟩ := mem_getD (d := 0) this
   exact ⟨k, hk, e.symm⟩
theorem posN_zero (n : List Ned) (r : List Roa) : posN n r 0 0 = 0 := rfl
theorem nwG_inc {n : List Ned} {r : List Roa} {a b : Nat} (hab : a < b) (hb : b < (nwG n r).K) : ((arL n r).getD a a30).fr < ((arL n r).getD b a30).fr ∨ ((arL n r).getD a a30).fr = ((arL n r).getD b a30).fr ∧ ((arL n r).getD a a30).to < ((arL n r).getD b a30).to := by
 have hp : (arL n r).Pairwise fun x y => x.fr < y.fr ∨ x.fr = y.fr ∧ x.to < y.to := by
  unfold arL
  rw [List.pairwise_flatMap]
  refine ⟨fun i _ => ?_, ?_⟩
  · unfold arRow
    rw [List.pairwise_filterMap]
    refine List.Pairwise.imp ?_ List.pairwise_lt_range
    intro k j hkj x hx y hy
    split at hx
    · split at hy
      · rw [Option.map_eq_some_iff] at hx hy
        obtain ⟨_, _, rfl⟩ := hx
        obtain ⟨_, _, rfl⟩ := hy
        exact .inr ⟨rfl, hkj⟩
      · cases hy
    · cases hx
  · refine List.Pairwise.imp ?_ List.pairwise_lt_range
    intro i j hij x hx y hy
    have e : ∀ {i : Nat} {x : Ar3}, x ∈ arRow n r i → x.fr = i := fun {i x} h => by
     unfold arRow at h
     rw [List.mem_filterMap] at h
     obtain ⟨k, _, h⟩ := h
     split at h
     · rw [Option.map_eq_some_iff] at h
       obtain ⟨_, _, rfl⟩ := h
       rfl
     · cases h
    rw [e hx, e hy]; exact .inl hij
 have hb : b < (arL n r).length := hb
 have := List.pairwise_iff_getElem.1 hp a b (by omega) hb hab
 rw [List.getD_eq_getElem?_getD, List.getD_eq_getElem?_getD, List.getElem?_eq_getElem (by omega), List.getElem?_eq_getElem hb]
 exact this
def oVPfM81_1 : List (Nat × List Nat) := [(0, []), (1, []), (2, []), (3, []), (4, []), (5, []), (6, [0, 1, 2, 3, 4, 5]), (7, [0, 1, 2, 3, 4, 5]), (8, [0, 1, 2, 3, 4, 5]), (9, [0, 1, 2, 3, 4, 5]), (10, [0, 1, 2, 3, 4, 5]), (11, [0, 1, 2, 3, 4, 5]), (12, [6, 7, 8, 9, 10, 11]), (13, [])]
def oVPfM81_15 : List (Nat × List Nat) := [(0, []), (1, [0]), (2, [0]), (3, []), (4, []), (5, []), (6, []), (7, []), (8, [7]), (9, [7]), (10, []), (11, []), (12, [7, 8, 9, 10, 11]), (13, [7, 8, 9, 10, 11]), (14, []), (15, [7, 8, 9, 10, 11, 12, 13, 14]), (16, [7, 8, 9, 10, 11, 12, 13, 14, 15]), (17, [7, 8, 9, 10, 11, 12, 13, 14, 15]), (18, [7, 8, 9, 10, 11, 12, 13, 14]), (19, [7, 8, 9, 10, 11, 12, 13, 14]), (20, []), (21, [])]
def oVPfM81_16 : List (Nat × List Nat) := [(0, []), (1, [0]), (2, [0]), (3, [0, 1, 2]), (4, [0, 1, 2, 3]), (5, [0, 1, 2, 3]), (6, [0, 1, 2, 3, 4, 5]), (7, [0, 1, 2, 3, 4, 5, 6]), (8, [0, 1, 2, 3, 4, 5, 6]), (9, [0, 1, 2, 3, 4, 5]), (10, [0, 1, 2, 3, 4, 5]), (11, [0, 1, 2, 3, 4, 5, 6, 7, 8, 9, 10]), (12, [0, 1, 2, 3, 4, 5, 6, 7, 8, 9, 10]), (13, [0, 1, 2, 3, 4, 5]), (14, [0, 1, 2, 3, 4, 5, 6, 7, 8, 9, 10, 11, 12, 13]), (15, [0, 1, 2, 3, 4, 5, 6, 7, 8, 9, 10, 11, 12, 13]), (16, [3, 4, 5, 14, 15]), (17, [3, 4, 5, 14, 15]), (18, []), (19, []), (20, [])]
def oVPfM81_17 : List (Nat × List Nat) := [(0, []), (1, []), (2, []), (3, []), (4, []), (5, [4]), (6, [4]), (7, []), (8, []), (9, []), (10, []), (11, []), (12, []), (13, [12]), (14, [12]), (15, []), (16, []), (17, [12, 13, 14, 15, 16]), (18, [12, 13, 14, 15, 16]), (19, []), (20, [12, 13, 14, 15, 16, 17, 18, 19]), (21, [12, 13, 14, 15, 16, 17, 18, 19, 20]), (22, [12, 13, 14, 15, 16, 17, 18, 19, 20]), (23, [12, 13, 14, 15, 16, 17, 18, 19]), (24, [12, 13, 14, 15, 16, 17, 18, 19]), (25, []), (26, [])]
def oVPfM81_18 : List (Nat × List Nat) := [(0, []), (1, [0]), (2, [0]), (3, [0, 1, 2]), (4, [0, 1, 2, 3]), (5, [0, 1, 2, 3]), (6, [0, 1, 2, 3, 4, 5]), (7, [0, 1, 2, 3, 4, 5, 6]), (8, [0, 1, 2, 3, 4, 5, 6]), (9, [0, 1, 2, 3, 4, 5]), (10, [0, 1, 2, 3, 4, 5]), (11, [0, 1, 2, 3, 4, 5, 6, 7, 8, 9, 10]), (12, [0, 1, 2, 3, 4, 5, 6, 7, 8, 9, 10]), (13, [0, 1, 2, 3, 4, 5]), (14, [0, 1, 2, 3, 4, 5, 6, 7, 8, 9, 10, 11, 12, 13]), (15, [0, 1, 2, 3, 4, 5, 6, 7, 8, 9, 10, 11, 12, 13]), (16, [3, 4, 5, 14, 15]), (17, [3, 4, 5, 14, 15]), (18, []), (19, []), (20, [])]
def nwA (N : Nat) (A : List Arc) : Nw := ⟨A.length, N, fun k => (A.getD k ar0).fr.toNat, fun k => (A.getD k ar0).to.toNat, fun k => (A.getD k ar0).car⟩
def floA (A : List Arc) (k : Nat) : Int := (A.getD k ar0).flow
def stpD (s : Int × Bool) : Option (Nat × Bool) := if s.1 < 0 then none else some (s.1.toNat, s.2)
structure ArOk (N : Nat) (A : List Arc) : Prop where
 len : A.length ≤ 1000
 fr : ∀ k, k < A.length → 0 ≤ (A.getD k ar0).fr ∧ (A.getD k ar0).fr < N
 to : ∀ k, k < A.length → 0 ≤ (A.getD k ar0).to ∧ (A.getD k ar0).to < N
 car : ∀ k, k < A.length → 0 ≤ (A.getD k ar0).car ∧ (A.getD k ar0).car ≤ 1000000
def getI (D : List Int) (v : Nat) : Int := D.getD v 0
def getB (E : List (Int × Bool)) (v : Nat) : Option (Nat × Bool) := stpD (E.getD v (0, false))
theorem Res.le_zrow {α : Type} {e : TypeId} {k n : Nat} {f : α → List DV} {d : α} {F : Nat → α} {g : Nat → List DV} (hg : ∀ i, g i = f d) : Res.le (.buf e k ((n : Nat) : Int).toNat g) (seqB e k f d (fillA d F n 0)) := by
 refine Res.le_buf (by rw [fillA_length]; exact Int.toNat_natCast n) (fun i hi => ?_)
 rw [hg]
 have hi : i < n := by simpa using hi
 unfold rowF fillA
 simp [List.getElem?_map, hi]
theorem row_fill {α : Type} {f : α → List DV} {d : α} {F : Nat → α} {n m j : Nat} (hj : j < n) : rowF f d (fillA d F n m) j = f (if j < m then F j else d) := by
 unfold rowF fillA
 simp [List.getElem?_map, hj]
theorem beq_ne {j i : Nat} (q : j ≠ i) : Nat.beq j i = false := by
 cases h : Nat.beq j i with
 | false => rfl
 | true => exact absurd (Nat.eq_of_beq_eq_true h) q
theorem getI_set {D : List Int} {a : Nat} {x : Int} (h : a < D.length) : getI (D.set a x) = upd (getI D) a x := by
 funext v
 unfold getI upd
 rw [List.getD_eq_getElem?_getD, List.getElem?_set]
 by_cases q : v = a
 · subst q; simp [h]
 · rw [if_neg (fun z => q z.symm), if_neg q, ← List.getD_eq_getElem?_getD]
theorem getB_set {E : List (Int × Bool)} {a : Nat} {x : Int × Bool} (h : a < E.length) : getB (E.set a x) = upd (getB E) a (stpD x) := by
 funext v
 unfold getB upd
 rw [List.getD_eq_getElem?_getD, List.getElem?_set]
 by_cases q : v = a
 · subst q; simp [h]
 · rw [if_neg (fun z => q z.symm), if_neg q, ← List.getD_eq_getElem?_getD]
theorem nwA_ok {N : Nat} {A : List Arc} (h : ArOk N A) : (nwA N A).Ok :=
 ⟨fun k hk => by have := h.fr k hk; show ((A.getD k ar0).fr).toNat < N; omega, fun k hk => by have := h.to k hk; show ((A.getD k ar0).to).toNat < N; omega, fun k hk => (h.car k hk).1⟩
theorem RegX.ent {P : Program} {id : Nat} {ops : Array Oper} {k : St → Prop} {s s' : St} (he : Entails s s') (h : RegX P id ops k s') : RegX P id ops k s := ⟨fun A a w hN hm => h.wp A a w hN (he.imp A a w hm)⟩
structure HoldR (p : Prop) : Prop where
 h : p
theorem HoldR.mk' {P : Program} {id : Nat} {ops : Array Oper} {k : St → Prop} {s : St} (h : HoldR (RegX P id ops k s)) : RegX P id ops k s := h.h
abbrev st263 (h w : List Int) (A : List Arc) (Lf : List Int) (k : Nat) (a : List Int × List (Int × Bool) × Bool) : St := mkSt [(0, .ptr 1000000 0), (4, .buf 15), (5, .buf 21), (7, .d (.bool a.2.2)), (8, .d (.int .i64 k)), (9, .ptr 9 0), (47, .buf 1000003), (48, .d (.int .i64 A.length)), (49, .d (.int .i64 k))] ([(1000004, seqB 3 1 iF 0 Lf)] ++ tpB h w A ++ [(15, seqB 3 1 iF 0 a.1), (21, seqB 139 2 stF (0, false) a.2.1), (9, .cells 108 ((arF (A.getD (k : Int).toNat ar0)).map .d))])
abbrev pr263 (h : List Int) (A : List Arc) (Lf : List Int) (p : Nat → Int) (D0 : List Int) (k : Nat) (a : List Int × List (Int × Bool) × Bool) : Prop := (a.1.length = h.length ∧ a.2.1.length = h.length) ∧ (nwA h.length A).Wy (floA A) (getI Lf) p (getI a.1) (getB a.2.1) ∧ (nwA h.length A).Bd 1000000 (getI a.1) ∧ (a.2.2 = false → a.1 = D0 ∧ (∀ e, (nwA h.length A).Re (floA A) e → e.1 < k ∨ e = (k, false) → getI a.1 ((nwA h.length A).tl e) < farD → getI a.1 ((nwA h.length A).hd e) ≤ getI a.1 ((nwA h.length A).tl e) + (nwA h.length A).cc e)) ∧ (a.2.2 = true → su (getI a.1) h.length < su (getI D0) h.length)
set_option maxHeartbeats 8000000 in
theorem p263 (h w : List Int) (A : List Arc) (Lf : List Int) (hA : ArOk h.length A) (hn : h.length ≤ 1000) (hlf : Lf.length = h.length) (p : Nat → Int) (hp : (nwA h.length A).Pot (getI h) (floA A) (getI Lf) p) :
 FSpec Tryz.prog 81 [.ptr 1000000 0, .buf 1000004] ([(1000004, seqB 3 1 iF 0 Lf)] ++ tpB h w A)
 (fun y r => (∃ D E, (D.length = h.length ∧ E.length = h.length) ∧ (nwA h.length A).Wy (floA A) (getI Lf) p (getI D) (getB E) ∧ (nwA h.length A).Bd 1000000 (getI D) ∧ (nwA h.length A).Fin (floA A) (getI D) ∧ y = .tup [.d (ints D), .d (steps E)]) ∧ r = [(1000004, seqB 3 1 iF 0 Lf)] ++ tpB h w A) := by
 refine spec_of hT (C := []) Tryz.func81 rfl Tryz.call81 rfl rfl rfl ?_
 conv => whnf
 repeat' (first | (refine br_intro ?_ ?_ <;> intro hb <;> (try simp only [brs] at hb) <;> conv => whnf) | (refine RegX.rule (id := 1) hT rfl [] oVPfM81_1 (by decide +kernel) ?_; conv => whnf) | (refine RegX.rule (id := 15) hT rfl [] oVPfM81_15 (by decide +kernel) ?_; conv => whnf) | (refine RegX.rule (id := 16) hT rfl [] oVPfM81_16 (by decide +kernel) ?_; conv => whnf) | (refine RegX.rule (id := 17) hT rfl [] oVPfM81_17 (by decide +kernel) ?_; conv => whnf) | (refine RegX.rule (id := 18) hT rfl [] oVPfM81_18 (by decide +kernel) ?_; conv => whnf) | omega | (refine And.intro ?_ ?_; ((try dsimp only); first | omega | (refine szA rfl ?_; omega) | (refine szB rfl ?_; omega) | (unfold inI64; omega) | exact rfl | (simp only [lns] at *; omega) | decide | (unfold inI64; decide)); conv => whnf) | decide | assumption)
 obtain ⟨F0, hF0⟩ : ∃ F0 : Nat → Int, F0 = fun v => if 0 < getI Lf v then 0 else farD := ⟨_, rfl⟩
 refine LoopX.rule hT (C := []) (ι := Nat) (fun i => i ≤ h.length) (fun i => mkSt [(0, .ptr 1000000 0), (1, .buf 1000004), (4, .buf 15), (5, .buf 21), (23, .d (.int .i64 h.length)), (24, .d (.int .i64 i))] ([(1000004, seqB 3 1 iF 0 Lf)] ++ tpB h w A ++ [(15, seqB 3 1 iF 0 (fillA 0 F0 h.length i)), (21, seqB 139 2 stF (0, false) (fillA (0, false) (fun _ => (-1, false)) h.length i))])) (fun i => h.length - i) 0 (by omega) ?_ ?_
 · exact Entails.mk' [(1000004, 1000004), (1000000, 1000000), (1000001, 1000001), (1000002, 1000002), (1000003, 1000003), (15, 15), (21, 21)] rfl rfl ⟨lr, lr, lr, lr, SV.le_int (by omega), lr, trivial⟩ ⟨rr, rr, rr, rr, rr, Res.le_zrow (fun _ => rfl), Res.le_zrow (fun _ => rfl), trivial⟩
 intro i p1
 have e1 : (i : Int).toNat = i := Int.toNat_natCast i
 have hD0 : (fillA 0 F0 h.length i).length = h.length := fillA_length
 have hE0 : (fillA (0, false) (fun _ => ((-1 : Int), false)) h.length i).length = h.length := fillA_length
 rcases Nat.lt_or_ge i h.length with hi | hi
 · conv => whnf
   repeat' (first | (refine br_intro ?_ ?_ <;> intro hb <;> (try simp only [brs] at hb) <;> conv => whnf) | (refine RegX.rule (id := 1) hT rfl [] oVPfM81_1 (by decide +kernel) ?_; conv => whnf) | (refine RegX.rule (id := 15) hT rfl [] oVPfM81_15 (by decide +kernel) ?_; conv => whnf) | (refine RegX.rule (id := 16) hT rfl [] oVPfM81_16 (by decide +kernel) ?_; conv => whnf) | (refine RegX.rule (id := 17) hT rfl [] oVPfM81_17 (by decide +kernel) ?_; conv => whnf) | (refine RegX.rule (id := 18) hT rfl [] oVPfM81_18 (by decide +kernel) ?_; conv => whnf) | omega | (refine And.intro ?_ ?_; ((try dsimp only); first | omega | (refine szA rfl ?_; omega) | (refine szB rfl ?_; omega) | (unfold inI64; omega) | exact rfl | (simp only [lns] at *; omega) | decide | (unfold inI64; decide)); conv => whnf) | decide | assumption)
   all_goals try (exfalso; omega)
   all_goals
    have hF : F0 i = if 0 < Lf.getD i 0 then 0 else farD := by rw [hF0]; rfl
    refine ⟨i + 1, by omega, by omega, Entails.mk' [(1000004, 1000004), (1000000, 1000000), (1000001, 1000001), (1000002, 1000002), (1000003, 1000003), (15, 15), (21, 21)] rfl rfl ⟨lr, lr, lr, lr, lr, lr, trivial⟩ ⟨rr, rr, rr, rr, rr, ?_, ?_, trivial⟩⟩
   all_goals
    refine Res.le_buf (by rw [fillA_length, fillA_length]) (fun j hj => ?_)
    have hj : j < h.length := by rw [fillA_length] at hj; exact hj
    conv => rhs; rw [row_fill hj]
    by_cases q : j = i
    · subst q
      rw [e1, if_pos (Nat.lt_succ_self _)]
      simp only [Nat.beq_refl, cond_true]
      first
       | rfl
       | (rw [hF, if_pos hb]; rfl)
       | (rw [hF, if_neg (by omega)]; rfl)
    · have q1 : Nat.beq j i = false := beq_ne q
      rw [e1]
      have q2 : (j < i + 1) = (j < i) := by rw [eq_iff_iff]; omega
      simp only [q1, cond_false, row_fill hj, q2]
 · have hih : i = h.length := by omega
   rw [hih]
   conv => whnf
   repeat' (first | (refine br_intro ?_ ?_ <;> intro hb <;> (try simp only [brs] at hb) <;> conv => whnf) | (refine RegX.rule (id := 1) hT rfl [] oVPfM81_1 (by decide +kernel) ?_; conv => whnf) | (refine RegX.rule (id := 15) hT rfl [] oVPfM81_15 (by decide +kernel) ?_; conv => whnf) | (refine RegX.rule (id := 16) hT rfl [] oVPfM81_16 (by decide +kernel) ?_; conv => whnf) | (refine RegX.rule (id := 17) hT rfl [] oVPfM81_17 (by decide +kernel) ?_; conv => whnf) | (refine RegX.rule (id := 18) hT rfl [] oVPfM81_18 (by decide +kernel) ?_; conv => whnf) | omega | (refine And.intro ?_ ?_; ((try dsimp only); first | omega | (refine szA rfl ?_; omega) | (refine szB rfl ?_; omega) | (unfold inI64; omega) | exact rfl | (simp only [lns] at *; omega) | decide | (unfold inI64; decide)); conv => whnf) | decide | assumption)
   all_goals try (exfalso; omega)
   have hG := nwA_ok hA
   have hi0 : ∀ v, v < (nwA h.length A).N → getI (fillA 0 F0 h.length h.length) v = if 0 < getI Lf v then 0 else farD := fun v hv => by
    show (fillA 0 F0 h.length h.length).getD v 0 = _
    have hv : v < h.length := hv
    rw [fillA_get hv, hF0]
   have hw0 : (nwA h.length A).Wy (floA A) (getI Lf) p (getI (fillA 0 F0 h.length h.length)) (getB (fillA (0, false) (fun _ => ((-1 : Int), false)) h.length h.length)) := Nw.wy_init hp hi0 (fun v hv => by
    have hv : v < h.length := hv
    unfold getB
    rw [fillA_get hv]; rfl)
   have hb0 : (nwA h.length A).Bd 1000000 (getI (fillA 0 F0 h.length h.length)) := Nw.bd_init (by omega) hi0
   refine LoopX.rule hT (C := []) (ι := List Int × List (Int × Bool) × Bool) (fun (D, E, ch) => (D.length = h.length ∧ E.length = h.length) ∧ (nwA h.length A).Wy (floA A) (getI Lf) p (getI D) (getB E) ∧ (nwA h.length A).Bd 1000000 (getI D) ∧ (ch = false → (nwA h.length A).Fin (floA A) (getI D)))
    (fun (D, E, ch) => mkSt [(0, .ptr 1000000 0), (4, .buf 15), (5, .buf 21), (7, .d (.bool ch))] ([(1000004, seqB 3 1 iF 0 Lf)] ++ tpB h w A ++ [(15, seqB 3 1 iF 0 D), (21, seqB 139 2 stF (0, false) E)]))
    (fun (D, _, ch) => 2 * (su (getI D) h.length).toNat + (if ch = true then 1 else 0)) (fillA 0 F0 h.length h.length, fillA (0, false) (fun _ => (-1, false)) h.length h.length, true) ⟨⟨fillA_length, fillA_length⟩, hw0, hb0, fun z => by cases z⟩ ?_ ?_
   · exact Entails.mk' [(1000004, 1000004), (1000000, 1000000), (1000001, 1000001), (1000002, 1000002), (1000003, 1000003), (15, 15), (21, 21)] rfl rfl ⟨lr, lr, lr, lr, trivial⟩ ⟨rr, rr, rr, rr, rr, rr, rr, trivial⟩
   rintro ⟨D0, E0, ch⟩ ⟨⟨hDl, hEl⟩, hW, hB, hFin⟩
   have hDl : D0.length = h.length := hDl
   have hEl : E0.length = h.length := hEl
   cases ch with
   | false =>
     conv => whnf
     repeat' (first | (refine br_intro ?_ ?_ <;> intro hb <;> (try simp only [brs] at hb) <;> conv => whnf) | (refine RegX.rule (id := 1) hT rfl [] oVPfM81_1 (by decide +kernel) ?_; conv => whnf) | (refine RegX.rule (id := 15) hT rfl [] oVPfM81_15 (by decide +kernel) ?_; conv => whnf) | (refine RegX.rule (id := 16) hT rfl [] oVPfM81_16 (by decide +kernel) ?_; conv => whnf) | (refine RegX.rule (id := 17) hT rfl [] oVPfM81_17 (by decide +kernel) ?_; conv => whnf) | (refine RegX.rule (id := 18) hT rfl [] oVPfM81_18 (by decide +kernel) ?_; conv => whnf) | omega | (refine And.intro ?_ ?_; ((try dsimp only); first | omega | (refine szA rfl ?_; omega) | (refine szB rfl ?_; omega) | (unfold inI64; omega) | exact rfl | (simp only [lns] at *; omega) | decide | (unfold inI64; decide)); conv => whnf) | decide | assumption)
     all_goals try (exfalso; omega)
     refine .freeze _ 15 3 1 _ _ rfl (.freeze _ 21 139 2 _ _ rfl (.weak _ ?_))
     conv => whnf
     exact ⟨.tup [.d (ints D0), .d (steps E0)], _, SV.le_tup ⟨lr, lr, trivial⟩, ⟨⟨D0, E0, ⟨hDl, hEl⟩, hW, hB, hFin rfl, rfl⟩, rfl⟩, rr, rr, rr, rr, rr, trivial⟩
   | true =>
     conv => whnf
     repeat' (first | (refine br_intro ?_ ?_ <;> intro hb <;> (try simp only [brs] at hb) <;> conv => whnf) | (refine RegX.rule (id := 1) hT rfl [] oVPfM81_1 (by decide +kernel) ?_; conv => whnf) | (refine RegX.rule (id := 15) hT rfl [] oVPfM81_15 (by decide +kernel) ?_; conv => whnf) | (refine RegX.rule (id := 16) hT rfl [] oVPfM81_16 (by decide +kernel) ?_; conv => whnf) | (refine RegX.rule (id := 17) hT rfl [] oVPfM81_17 (by decide +kernel) ?_; conv => whnf) | (refine RegX.rule (id := 18) hT rfl [] oVPfM81_18 (by decide +kernel) ?_; conv => whnf) | omega | (refine And.intro ?_ ?_; ((try dsimp only); first | omega | (refine szA rfl ?_; omega) | (refine szB rfl ?_; omega) | (unfold inI64; omega) | exact rfl | (simp only [lns] at *; omega) | decide | (unfold inI64; decide)); conv => whnf) | decide | assumption)
     all_goals try (exfalso; omega)
     refine LoopX.rule hT (C := []) (ι := List Int × List (Int × Bool) × Bool × Nat) (fun (D, E, ch, k) => k ≤ A.length ∧ (D.length = h.length ∧ E.length = h.length) ∧ (nwA h.length A).Wy (floA A) (getI Lf) p (getI D) (getB E) ∧ (nwA h.length A).Bd 1000000 (getI D) ∧ (ch = false → D = D0 ∧ ∀ e, (nwA h.length A).Re (floA A) e → e.1 < k → getI D ((nwA h.length A).tl e) < farD → getI D ((nwA h.length A).hd e) ≤ getI D ((nwA h.length A).tl e) + (nwA h.length A).cc e) ∧ (ch = true → su (getI D) h.length < su (getI D0) h.length))
      (fun (D, E, ch, k) => mkSt [(0, .ptr 1000000 0), (4, .buf 15), (5, .buf 21), (7, .d (.bool ch)), (47, .buf 1000003), (48, .d (.int .i64 A.length)), (49, .d (.int .i64 k))] ([(1000004, seqB 3 1 iF 0 Lf)] ++ tpB h w A ++ [(15, seqB 3 1 iF 0 D), (21, seqB 139 2 stF (0, false) E)]))
      (fun (_, _, _, k) => A.length - k) (D0, E0, false, 0) ⟨Nat.zero_le _, ⟨hDl, hEl⟩, hW, hB, fun _ => ⟨rfl, fun e _ q => absurd q (Nat.not_lt_zero _)⟩, fun z => by cases z⟩ ?_ ?_
     · exact Entails.mk' [(1000004, 1000004), (1000000, 1000000), (1000001, 1000001), (1000002, 1000002), (1000003, 1000003), (15, 15), (21, 21)] rfl rfl ⟨lr, lr, lr, lr, lr, lr, lr, trivial⟩ ⟨rr, rr, rr, rr, rr, rr, rr, trivial⟩
     rintro ⟨D, E, ch, k⟩ ⟨hk, ⟨hd1, he1⟩, hW1, hB1, hno, hyes⟩
     have hk : k ≤ A.length := hk
     have hd1 : D.length = h.length := hd1
     have he1 : E.length = h.length := he1
     have ek : (k : Int).toNat = k := Int.toNat_natCast k
     rcases Nat.lt_or_ge k A.length with hkA | hkA
     · have hfr := hA.fr k hkA
       have hto := hA.to k hkA
       have hcar := hA.car k hkA
       rw [← ek] at hfr hto hcar
       have hAl := hA.len
       have hDf : 0 ≤ D.getD (A.getD (k : Int).toNat ar0).fr.toNat 0 ∧ D.getD (A.getD (k : Int).toNat ar0).fr.toNat 0 ≤ 1125899906842624 := hW1.nn hp (by show _ < h.length; omega)
       have hDt : 0 ≤ D.getD (A.getD (k : Int).toNat ar0).to.toNat 0 ∧ D.getD (A.getD (k : Int).toNat ar0).to.toNat 0 ≤ 1125899906842624 := hW1.nn hp (by show _ < h.length; omega)
       conv => whnf
       repeat' (first | (refine HoldR.mk' (id := 17) ?_; conv => whnf) | (refine br_intro ?_ ?_ <;> intro hb <;> (try simp only [brs] at hb) <;> conv => whnf) | (refine RegX.rule (id := 1) hT rfl [] oVPfM81_1 (by decide +kernel) ?_; conv => whnf) | (refine RegX.rule (id := 15) hT rfl [] oVPfM81_15 (by decide +kernel) ?_; conv => whnf) | (refine RegX.rule (id := 16) hT rfl [] oVPfM81_16 (by decide +kernel) ?_; conv => whnf) | (refine RegX.rule (id := 17) hT rfl [] oVPfM81_17 (by decide +kernel) ?_; conv => whnf) | (refine RegX.rule (id := 18) hT rfl [] oVPfM81_18 (by decide +kernel) ?_; conv => whnf) | omega | (refine And.intro ?_ ?_; ((try dsimp only); first | omega | (refine szA rfl ?_; omega) | (refine szB rfl ?_; omega) | (unfold inI64; omega) | exact rfl | (simp only [lns] at *; omega) | decide | (unfold inI64; decide)); conv => whnf) | decide | assumption)
       all_goals try (exfalso; omega)
       · have h1 : getI D ((nwA h.length A).tl (k, false)) < farD := by rename_i z; exact z
         have h2 : getI D ((nwA h.length A).tl (k, false)) + (nwA h.length A).cc (k, false) < getI D ((nwA h.length A).hd (k, false)) := hb
         have hre : (nwA h.length A).Re (floA A) (k, false) := ⟨hkA, fun z => by simp at z⟩
         have hW2 := hW1.relax hG hp hre h1 h2
         have hB2 := hB1.relax (by omega) (Nw.hd_lt hG (e := (k, false)) hkA).1 (Nw.hd_lt hG (e := (k, false)) hkA).2 (by rw [ek] at hcar; exact hcar.2) h1 h2 (hW1.d1 _ (Nw.hd_lt hG (e := (k, false)) hkA).1).1
         have hlt : su (upd (getI D) ((nwA h.length A).hd (k, false)) (getI D ((nwA h.length A).tl (k, false)) + (nwA h.length A).cc (k, false))) h.length < su (getI D) h.length := by
          have hsu := su_upd (F := getI D) (n := h.length) (a := (nwA h.length A).hd (k, false)) (x := getI D ((nwA h.length A).tl (k, false)) + (nwA h.length A).cc (k, false)) (Nw.hd_lt hG (e := (k, false)) hkA).1
          rw [hsu]; omega
         have hle : su (getI D) h.length ≤ su (getI D0) h.length := by
          cases hc : ch with
          | false => rw [(hno hc).1]; exact Int.le_refl _
          | true => have := hyes hc; omega
         have eD : getI (D.set (A.getD (k : Int).toNat ar0).to.toNat (D.getD (A.getD (k : Int).toNat ar0).fr.toNat 0 + (A.getD (k : Int).toNat ar0).car)) = upd (getI D) ((nwA h.length A).hd (k, false)) (getI D ((nwA h.length A).tl (k, false)) + (nwA h.length A).cc (k, false)) := by
          rw [getI_set (by omega), ek]; rfl
         have eE : getB (E.set (A.getD (k : Int).toNat ar0).to.toNat ((k : Int), false)) = upd (getB E) ((nwA h.length A).hd (k, false)) (some (k, false)) := by
          rw [getB_set (by omega), ek]
          have : stpD ((k : Int), false) = some (k, false) := by unfold stpD; rw [if_neg (by show ¬ (k : Int) < 0; omega)]; rfl
          rw [this]; rfl
         refine ⟨RegX.ent ?_ ((?_ : ∀ a : List Int × List (Int × Bool) × Bool, pr263 h A Lf p D0 k a → RegX Tryz.prog 17 _ _ (st263 h w A Lf k a)) (D.set (A.getD (k : Int).toNat ar0).to.toNat (D.getD (A.getD (k : Int).toNat ar0).fr.toNat 0 + (A.getD (k : Int).toNat ar0).car), E.set (A.getD (k : Int).toNat ar0).to.toNat ((k : Int), false), true) ⟨⟨by rw [List.length_set]; exact hd1, by rw [List.length_set]; exact he1⟩, by rw [eD, eE]; exact hW2, by rw [eD]; exact hB2, fun z => (by cases z), fun _ => by rw [eD]; omega⟩)⟩
         · exact Entails.mk' [(1000004, 1000004), (1000000, 1000000), (1000001, 1000001), (1000002, 1000002), (1000003, 1000003), (15, 15), (21, 21), (9, 9)] rfl rfl ⟨lr, lr, lr, lr, lr, lr, lr, lr, lr, trivial⟩ ⟨rr, rr, rr, rr, rr, Res.le_upd (fun _ => (D.getD (A.getD (k : Int).toNat ar0).fr.toNat 0 + (A.getD (k : Int).toNat ar0).car)) (fun y => rfl), Res.le_upd (fun _ => ((k : Int), false)) (fun y => rfl), rr, trivial⟩
         · clear hno hyes hW1 hB1 hd1 he1 hDf hDt hW2 hB2 hlt hle eD eE
           rintro ⟨D, E, ch⟩ ⟨⟨hd1, he1⟩, hW1, hB1, hno, hyes⟩
           have hd1 : D.length = h.length := hd1
           have he1 : E.length = h.length := he1
           have hno : ch = false → D = D0 ∧ _ := hno
           have hyes : ch = true → su (getI D) h.length < su (getI D0) h.length := hyes
           have hDf : 0 ≤ D.getD (A.getD (k : Int).toNat ar0).fr.toNat 0 ∧ D.getD (A.getD (k : Int).toNat ar0).fr.toNat 0 ≤ 1125899906842624 := hW1.nn hp (by show _ < h.length; omega)
           have hDt : 0 ≤ D.getD (A.getD (k : Int).toNat ar0).to.toNat 0 ∧ D.getD (A.getD (k : Int).toNat ar0).to.toNat 0 ≤ 1125899906842624 := hW1.nn hp (by show _ < h.length; omega)
           refine RegX.rule (id := 17) hT rfl [] oVPfM81_17 (by decide +kernel) ?_
           conv => whnf
           repeat' (first | (refine br_intro ?_ ?_ <;> intro hb <;> (try simp only [brs] at hb) <;> conv => whnf) | (refine RegX.rule (id := 1) hT rfl [] oVPfM81_1 (by decide +kernel) ?_; conv => whnf) | (refine RegX.rule (id := 15) hT rfl [] oVPfM81_15 (by decide +kernel) ?_; conv => whnf) | (refine RegX.rule (id := 16) hT rfl [] oVPfM81_16 (by decide +kernel) ?_; conv => whnf) | (refine RegX.rule (id := 17) hT rfl [] oVPfM81_17 (by decide +kernel) ?_; conv => whnf) | (refine RegX.rule (id := 18) hT rfl [] oVPfM81_18 (by decide +kernel) ?_; conv => whnf) | omega | (refine And.intro ?_ ?_; ((try dsimp only); first | omega | (refine szA rfl ?_; omega) | (refine szB rfl ?_; omega) | (unfold inI64; omega) | exact rfl | (simp only [lns] at *; omega) | decide | (unfold inI64; decide)); conv => whnf) | decide | assumption)
           all_goals try (exfalso; omega)
           · rename_i hf ht
             have hre : (nwA h.length A).Re (floA A) (k, true) := ⟨hkA, fun _ => hf⟩
             have h1 : getI D ((nwA h.length A).tl (k, true)) < farD := ht
             have h2 : getI D ((nwA h.length A).tl (k, true)) + (nwA h.length A).cc (k, true) < getI D ((nwA h.length A).hd (k, true)) := hb
             have hW2 := hW1.relax hG hp hre h1 h2
             have hB2 := hB1.relax (by omega) (Nw.hd_lt hG (e := (k, true)) hkA).1 (Nw.hd_lt hG (e := (k, true)) hkA).2 (by rw [ek] at hcar; show - (A.getD k ar0).car ≤ 1000000; omega) h1 h2 (hW1.d1 _ (Nw.hd_lt hG (e := (k, true)) hkA).1).1
             have hlt : su (upd (getI D) ((nwA h.length A).hd (k, true)) (getI D ((nwA h.length A).tl (k, true)) + (nwA h.length A).cc (k, true))) h.length < su (getI D) h.length := by
              have hsu := su_upd (F := getI D) (n := h.length) (a := (nwA h.length A).hd (k, true)) (x := getI D ((nwA h.length A).tl (k, true)) + (nwA h.length A).cc (k, true)) (Nw.hd_lt hG (e := (k, true)) hkA).1
              rw [hsu]; omega
             have hle : su (getI D) h.length ≤ su (getI D0) h.length := by
              cases hc : ch with
              | false => rw [(hno hc).1]; exact Int.le_refl _
              | true => have := hyes hc; omega
             have eD : getI (D.set (A.getD (k : Int).toNat ar0).fr.toNat (D.getD (A.getD (k : Int).toNat ar0).to.toNat 0 - (A.getD (k : Int).toNat ar0).car)) = upd (getI D) ((nwA h.length A).hd (k, true)) (getI D ((nwA h.length A).tl (k, true)) + (nwA h.length A).cc (k, true)) := by
              rw [getI_set (by omega), ek]; rfl
             have eE : getB (E.set (A.getD (k : Int).toNat ar0).fr.toNat ((k : Int), true)) = upd (getB E) ((nwA h.length A).hd (k, true)) (some (k, true)) := by
              rw [getB_set (by omega), ek]
              have : stpD ((k : Int), true) = some (k, true) := by unfold stpD; rw [if_neg (by show ¬ (k : Int) < 0; omega)]; rfl
              rw [this]; rfl
             refine ⟨(D.set (A.getD (k : Int).toNat ar0).fr.toNat (D.getD (A.getD (k : Int).toNat ar0).to.toNat 0 - (A.getD (k : Int).toNat ar0).car), E.set (A.getD (k : Int).toNat ar0).fr.toNat ((k : Int), true), true, k + 1), ⟨by omega, ⟨by rw [List.length_set]; exact hd1, by rw [List.length_set]; exact he1⟩, by rw [eD, eE]; exact hW2, by rw [eD]; exact hB2, fun z => (by cases z), fun _ => by rw [eD]; omega⟩, by show A.length - (k + 1) < A.length - k; omega, ?_⟩
             exact Entails.mk' [(1000004, 1000004), (1000000, 1000000), (1000001, 1000001), (1000002, 1000002), (1000003, 1000003), (15, 15), (21, 21)] rfl rfl ⟨lr, lr, lr, lr, lr, lr, lr, trivial⟩ ⟨rr, rr, rr, rr, rr, Res.le_upd (fun _ => (D.getD (A.getD (k : Int).toNat ar0).to.toNat 0 - (A.getD (k : Int).toNat ar0).car)) (fun y => rfl), Res.le_upd (fun _ => ((k : Int), true)) (fun y => rfl), trivial⟩
           all_goals
            refine ⟨(D, E, ch, k + 1), ⟨by omega, ⟨hd1, he1⟩, hW1, hB1, fun z => ⟨(hno z).1, fun e he q hl => ?_⟩, hyes⟩, by show A.length - (k + 1) < A.length - k; omega, ?_⟩
           all_goals first
            | exact Entails.mk' [(1000004, 1000004), (1000000, 1000000), (1000001, 1000001), (1000002, 1000002), (1000003, 1000003), (15, 15), (21, 21)] rfl rfl ⟨lr, lr, lr, lr, lr, lr, lr, trivial⟩ ⟨rr, rr, rr, rr, rr, rr, rr, trivial⟩
            | (by_cases w : e.1 < k ∨ e = (k, false)
               · exact (hno z).2 e he w hl
               · have w1 : e.1 = k := by omega
                 have w2 : e.2 = true := by
                  cases w3 : e.2
                  · exfalso; apply w; right; rw [← w1, ← w3]
                  · rfl
                 have w4 : e = (k, true) := by rw [← w1, ← w2]
                 subst w4
                 first
                  | exact hb
                  | (exfalso; exact absurd hl (Int.not_lt.2 hb))
                  | (exfalso; exact absurd (he.2 rfl) (Int.not_lt.2 hb)))
       all_goals
        refine ⟨RegX.ent ?_ ((?_ : ∀ a : List Int × List (Int × Bool) × Bool, pr263 h A Lf p D0 k a → RegX Tryz.prog 17 _ _ (st263 h w A Lf k a)) (D, E, ch) ⟨⟨hd1, he1⟩, hW1, hB1, fun z => ⟨(hno z).1, fun e he q hl => ?_⟩, hyes⟩)⟩
       all_goals first
        | exact Entails.mk' [(1000004, 1000004), (1000000, 1000000), (1000001, 1000001), (1000002, 1000002), (1000003, 1000003), (15, 15), (21, 21), (9, 9)] rfl rfl ⟨lr, lr, lr, lr, lr, lr, lr, lr, lr, trivial⟩ ⟨rr, rr, rr, rr, rr, rr, rr, rr, trivial⟩
        | (rcases q with q | q
           · exact (hno z).2 e he q hl
           · subst q
             first
              | exact hb
              | (exfalso; exact absurd hl (Int.not_lt.2 hb)))
        | skip
       all_goals
        clear hno hyes hW1 hB1 hd1 he1 hDf hDt
        rintro ⟨D, E, ch⟩ ⟨⟨hd1, he1⟩, hW1, hB1, hno, hyes⟩
        have hd1 : D.length = h.length := hd1
        have he1 : E.length = h.length := he1
        have hno : ch = false → D = D0 ∧ _ := hno
        have hyes : ch = true → su (getI D) h.length < su (getI D0) h.length := hyes
        have hDf : 0 ≤ D.getD (A.getD (k : Int).toNat ar0).fr.toNat 0 ∧ D.getD (A.getD (k : Int).toNat ar0).fr.toNat 0 ≤ 1125899906842624 := hW1.nn hp (by show _ < h.length; omega)
        have hDt : 0 ≤ D.getD (A.getD (k : Int).toNat ar0).to.toNat 0 ∧ D.getD (A.getD (k : Int).toNat ar0).to.toNat 0 ≤ 1125899906842624 := hW1.nn hp (by show _ < h.length; omega)
        refine RegX.rule (id := 17) hT rfl [] oVPfM81_17 (by decide +kernel) ?_
        conv => whnf
        repeat' (first | (refine br_intro ?_ ?_ <;> intro hb <;> (try simp only [brs] at hb) <;> conv => whnf) | (refine RegX.rule (id := 1) hT rfl [] oVPfM81_1 (by decide +kernel) ?_; conv => whnf) | (refine RegX.rule (id := 15) hT rfl [] oVPfM81_15 (by decide +kernel) ?_; conv => whnf) | (refine RegX.rule (id := 16) hT rfl [] oVPfM81_16 (by decide +kernel) ?_; conv => whnf) | (refine RegX.rule (id := 17) hT rfl [] oVPfM81_17 (by decide +kernel) ?_; conv => whnf) | (refine RegX.rule (id := 18) hT rfl [] oVPfM81_18 (by decide +kernel) ?_; conv => whnf) | omega | (refine And.intro ?_ ?_; ((try dsimp only); first | omega | (refine szA rfl ?_; omega) | (refine szB rfl ?_; omega) | (unfold inI64; omega) | exact rfl | (simp only [lns] at *; omega) | decide | (unfold inI64; decide)); conv => whnf) | decide | assumption)
        all_goals try (exfalso; omega)
        · rename_i hf ht
          have hre : (nwA h.length A).Re (floA A) (k, true) := ⟨hkA, fun _ => hf⟩
          have h1 : getI D ((nwA h.length A).tl (k, true)) < farD := ht
          have h2 : getI D ((nwA h.length A).tl (k, true)) + (nwA h.length A).cc (k, true) < getI D ((nwA h.length A).hd (k, true)) := hb
          have hW2 := hW1.relax hG hp hre h1 h2
          have hB2 := hB1.relax (by omega) (Nw.hd_lt hG (e := (k, true)) hkA).1 (Nw.hd_lt hG (e := (k, true)) hkA).2 (by rw [ek] at hcar; show - (A.getD k ar0).car ≤ 1000000; omega) h1 h2 (hW1.d1 _ (Nw.hd_lt hG (e := (k, true)) hkA).1).1
          have hlt : su (upd (getI D) ((nwA h.length A).hd (k, true)) (getI D ((nwA h.length A).tl (k, true)) + (nwA h.length A).cc (k, true))) h.length < su (getI D) h.length := by
           have hsu := su_upd (F := getI D) (n := h.length) (a := (nwA h.length A).hd (k, true)) (x := getI D ((nwA h.length A).tl (k, true)) + (nwA h.length A).cc (k, true)) (Nw.hd_lt hG (e := (k, true)) hkA).1
           rw [hsu]; omega
          have hle : su (getI D) h.length ≤ su (getI D0) h.length := by
           cases hc : ch with
           | false => rw [(hno hc).1]; exact Int.le_refl _
           | true => have := hyes hc; omega
          have eD : getI (D.set (A.getD (k : Int).toNat ar0).fr.toNat (D.getD (A.getD (k : Int).toNat ar0).to.toNat 0 - (A.getD (k : Int).toNat ar0).car)) = upd (getI D) ((nwA h.length A).hd (k, true)) (getI D ((nwA h.length A).tl (k, true)) + (nwA h.length A).cc (k, true)) := by
           rw [getI_set (by omega), ek]; rfl
          have eE : getB (E.set (A.getD (k : Int).toNat ar0).fr.toNat ((k : Int), true)) = upd (getB E) ((nwA h.length A).hd (k, true)) (some (k, true)) := by
           rw [getB_set (by omega), ek]
           have : stpD ((k : Int), true) = some (k, true) := by unfold stpD; rw [if_neg (by show ¬ (k : Int) < 0; omega)]; rfl
           rw [this]; rfl
          refine ⟨(D.set (A.getD (k : Int).toNat ar0).fr.toNat (D.getD (A.getD (k : Int).toNat ar0).to.toNat 0 - (A.getD (k : Int).toNat ar0).car), E.set (A.getD (k : Int).toNat ar0).fr.toNat ((k : Int), true), true, k + 1), ⟨by omega, ⟨by rw [List.length_set]; exact hd1, by rw [List.length_set]; exact he1⟩, by rw [eD, eE]; exact hW2, by rw [eD]; exact hB2, fun z => (by cases z), fun _ => by rw [eD]; omega⟩, by show A.length - (k + 1) < A.length - k; omega, ?_⟩
          exact Entails.mk' [(1000004, 1000004), (1000000, 1000000), (1000001, 1000001), (1000002, 1000002), (1000003, 1000003), (15, 15), (21, 21)] rfl rfl ⟨lr, lr, lr, lr, lr, lr, lr, trivial⟩ ⟨rr, rr, rr, rr, rr, Res.le_upd (fun _ => (D.getD (A.getD (k : Int).toNat ar0).to.toNat 0 - (A.getD (k : Int).toNat ar0).car)) (fun y => rfl), Res.le_upd (fun _ => ((k : Int), true)) (fun y => rfl), trivial⟩
        all_goals
         refine ⟨(D, E, ch, k + 1), ⟨by omega, ⟨hd1, he1⟩, hW1, hB1, fun z => ⟨(hno z).1, fun e he q hl => ?_⟩, hyes⟩, by show A.length - (k + 1) < A.length - k; omega, ?_⟩
        all_goals first
         | exact Entails.mk' [(1000004, 1000004), (1000000, 1000000), (1000001, 1000001), (1000002, 1000002), (1000003, 1000003), (15, 15), (21, 21)] rfl rfl ⟨lr, lr, lr, lr, lr, lr, lr, trivial⟩ ⟨rr, rr, rr, rr, rr, rr, rr, trivial⟩
         | (by_cases w : e.1 < k ∨ e = (k, false)
            · exact (hno z).2 e he w hl
            · have w1 : e.1 = k := by omega
              have w2 : e.2 = true := by
               cases w3 : e.2
               · exfalso; apply w; right; rw [← w1, ← w3]
               · rfl
              have w4 : e = (k, true) := by rw [← w1, ← w2]
              subst w4
              first
               | exact hb
               | (exfalso; exact absurd hl (Int.not_lt.2 hb))
               | (exfalso; exact absurd (he.2 rfl) (Int.not_lt.2 hb)))
     · have hkk : k = A.length := by omega
       rw [hkk]
       conv => whnf
       repeat' (first | (refine br_intro ?_ ?_ <;> intro hb <;> (try simp only [brs] at hb) <;> conv => whnf) | (refine RegX.rule (id := 1) hT rfl [] oVPfM81_1 (by decide +kernel) ?_; conv => whnf) | (refine RegX.rule (id := 15) hT rfl [] oVPfM81_15 (by decide +kernel) ?_; conv => whnf) | (refine RegX.rule (id := 16) hT rfl [] oVPfM81_16 (by decide +kernel) ?_; conv => whnf) | (refine RegX.rule (id := 17) hT rfl [] oVPfM81_17 (by decide +kernel) ?_; conv => whnf) | (refine RegX.rule (id := 18) hT rfl [] oVPfM81_18 (by decide +kernel) ?_; conv => whnf) | omega | (refine And.intro ?_ ?_; ((try dsimp only); first | omega | (refine szA rfl ?_; omega) | (refine szB rfl ?_; omega) | (unfold inI64; omega) | exact rfl | (simp only [lns] at *; omega) | decide | (unfold inI64; decide)); conv => whnf) | decide | assumption)
       all_goals try (exfalso; omega)
       refine ⟨(D, E, ch), ⟨⟨hd1, he1⟩, hW1, hB1, fun z e he => (hno z).2 e he (by rw [hkk]; exact he.1)⟩, ?_, Entails.mk' [(1000004, 1000004), (1000000, 1000000), (1000001, 1000001), (1000002, 1000002), (1000003, 1000003), (15, 15), (21, 21)] rfl rfl ⟨lr, lr, lr, lr, trivial⟩ ⟨rr, rr, rr, rr, rr, rr, rr, trivial⟩⟩
       have hnn : 0 ≤ su (getI D) h.length := su_nn fun v hv => (hW1.nn hp hv).1
       show 2 * (su (getI D) h.length).toNat + (if ch = true then 1 else 0) < 2 * (su (getI D0) h.length).toNat + (if true = true then 1 else 0)
       cases hc : ch with
       | false => rw [(hno hc).1]; simp
       | true => have := hyes hc; simp; omega
theorem p80 (l : List Int) (hl : l.length ≤ 2^20) : FSpec Tryz.prog 80 [.d (ints l)] [] (fun y r => y = .buf 7 ∧ r = [(7, seqB 3 1 iF 0 l)]) := by
 refine spec_of hT (C := [5]) Tryz.func80 rfl Tryz.call80 rfl rfl rfl ?_
 conv => whnf
 rintro b hbn
 conv => whnf
 repeat' (first | (refine br_intro ?_ ?_ <;> intro hb <;> (try simp only [brs] at hb) <;> conv => whnf) | omega | (refine And.intro ?_ ?_; ((try dsimp only); first | omega | (refine szA rfl ?_; omega) | (refine szB rfl ?_; omega) | (unfold inI64; omega) | exact rfl | (simp only [lns] at *; omega) | decide | (unfold inI64; decide)); conv => whnf) | decide | assumption)
 · have h0 : l = [] := List.eq_nil_of_length_eq_zero (hbn (by assumption))
   subst h0
   refine .ent _ _ (Entails.nil 2 7 3 1 (rowF iF 0 []) rfl rfl (by decide)) (.ret _ ?_)
   conv => whnf
   exact ⟨_, ⟨rfl, rfl⟩, rr, trivial⟩
 · refine .ret _ ?_
   conv => whnf
   refine ⟨_, ⟨rfl, rfl⟩, Res.le_buf (by simp) (fun i hi => ?_), trivial⟩
   rw [appGet_ge (by omega)]; rfl
abbrev tpV (h w : List Int) (A : List Arc) : Res := .cells 106 [.d (ints h), .d (ints w), .d (seqD 4 arF ar0 A)]
def oVPfO60_1 : List (Nat × List Nat) := [(0, []), (1, []), (2, []), (3, []), (5, [0, 1, 2, 3]), (6, [0, 1, 2, 3]), (7, [0, 1, 2, 3]), (8, [0, 1, 2, 3]), (4, [5, 6, 7, 8]), (9, []), (10, []), (11, [])]
def oVPfO60_14 : List (Nat × List Nat) := [(0, []), (1, []), (2, []), (3, []), (4, [3]), (5, []), (6, []), (7, []), (8, []), (9, []), (10, []), (11, []), (12, []), (13, []), (14, [13]), (15, []), (16, []), (17, [13, 14, 15, 16]), (18, [13, 14, 15, 16, 17]), (19, [13, 14, 15, 16]), (20, [13, 14, 15, 16]), (21, []), (22, []), (23, [])]
def oVPfO60_21 : List (Nat × List Nat) := [(0, []), (1, []), (2, []), (3, []), (4, [0, 1, 2, 3]), (5, [0, 1, 2, 3, 4]), (6, [0, 1, 2, 3]), (7, [0, 1, 2, 3]), (8, [0, 1, 2, 3]), (9, []), (10, []), (11, [0, 1, 2, 3, 4, 5, 6, 7, 8, 9, 10]), (12, [])]
def oVPfO60_23 : List (Nat × List Nat) := [(0, []), (1, [0]), (2, [0]), (3, []), (4, [0, 1, 2, 3]), (5, [0, 1, 2, 3]), (6, [4, 5]), (7, [])]
def oVPfO60_31 : List (Nat × List Nat) := [(0, []), (1, []), (2, []), (3, []), (4, [0, 1, 2, 3]), (5, [0, 1, 2, 3, 4]), (6, [0, 1, 2, 3]), (7, [0, 1, 2, 3]), (8, [0, 1, 2, 3]), (9, []), (10, [])]
structure Sm (A B : List Arc) : Prop where
 len : B.length = A.length
 fld : ∀ k, (B.getD k ar0).fr = (A.getD k ar0).fr ∧ (B.getD k ar0).to = (A.getD k ar0).to ∧ (B.getD k ar0).car = (A.getD k ar0).car
theorem Sm.refl (A : List Arc) : Sm A A := ⟨rfl, fun _ => ⟨rfl, rfl, rfl⟩⟩
theorem Sm.nw {A B : List Arc} (h : Sm A B) (N : Nat) : nwA N B = nwA N A := by
 unfold nwA
 rw [h.len, funext fun k => congrArg Int.toNat (h.fld k).1, funext fun k => congrArg Int.toNat (h.fld k).2.1, funext fun k => (h.fld k).2.2]
theorem Sm.ok {A B : List Arc} (h : Sm A B) {N : Nat} (ha : ArOk N A) : ArOk N B :=
 ⟨by rw [h.len]; exact ha.len, fun k hk => by rw [(h.fld k).1]; exact ha.fr k (by rw [← h.len]; exact hk), fun k hk => by rw [(h.fld k).2.1]; exact ha.to k (by rw [← h.len]; exact hk), fun k hk => by rw [(h.fld k).2.2]; exact ha.car k (by rw [← h.len]; exact hk)⟩
theorem Sm.set {A B : List Arc} (h : Sm A B) (k : Nat) (x : Int) : Sm A (B.set k { B.getD k ar0 with flow := x }) := by
 refine ⟨by rw [List.length_set]; exact h.len, fun j => ?_⟩
 rw [List.getD_eq_getElem?_getD, List.getElem?_set]
 by_cases q : k = j
 · subst q
   by_cases w : k < B.length
   · rw [if_pos rfl, if_pos w]; exact h.fld k
   · rw [if_pos rfl, if_neg w]
     have := h.fld k
     rw [List.getD_eq_getElem?_getD, List.getElem?_eq_none (by omega)] at this
     exact this
 · rw [if_neg q, ← List.getD_eq_getElem?_getD]; exact h.fld j
theorem floA_set {B : List Arc} {k : Nat} {x : Int} (hk : k < B.length) : floA (B.set k { B.getD k ar0 with flow := x }) = upd (floA B) k x := by
 funext v
 unfold floA upd
 rw [List.getD_eq_getElem?_getD, List.getElem?_set]
 by_cases q : v = k
 · subst q; simp [hk]
 · rw [if_neg (fun z => q z.symm), if_neg q, ← List.getD_eq_getElem?_getD]
def SolR (G : Nw) (h w f : Nat → Int) (y : SV) : Prop := (∃ left p, G.St h w f left (fun _ => 0) ∧ G.Pot h f left p ∧ (0 ≤ G.cost f ∧ G.cost f ≤ 1000000000000000) ∧ y = .tup [.d (.int .i64 (G.cost f)), .d (.bool true)]) ∨ ((∀ g, ¬ G.Fills h w g) ∧ ∃ n, y = .tup [.d (.int .i64 n), .d (.bool false)])
def wanB (K : List Int) : Nat → Bool
 | 0 => false
 | i + 1 => wanB K i || decide (0 < K.getD i 0)
def toB (D K : List Int) : Nat → Int
 | 0 => -1
 | i + 1 => if 0 < K.getD i 0 ∧ D.getD i 0 < 1125899906842624 ∧ (toB D K i < 0 ∨ D.getD i 0 < D.getD (toB D K i).toNat 0) then i else toB D K i
theorem wanB_false {K : List Int} : ∀ {n : Nat}, wanB K n = false → ∀ i, i < n → K.getD i 0 ≤ 0
 | 0, _, i, hi => absurd hi (Nat.not_lt_zero _)
 | n + 1, h, i, hi => by
   rw [wanB, Bool.or_eq_false_iff, decide_eq_false_iff_not] at h
   by_cases q : i = n
   · rw [q]; omega
   · exact wanB_false h.1 i (by omega)
theorem wanB_true {K : List Int} : ∀ {n : Nat}, wanB K n = true → ∃ i, i < n ∧ 0 < K.getD i 0
 | 0, h => by cases h
 | n + 1, h => by
   rw [wanB, Bool.or_eq_true, decide_eq_true_eq] at h
   rcases h with h | h
   · obtain ⟨i, h1, h2⟩ := wanB_true h; exact ⟨i, by omega, h2⟩
   · exact ⟨n, by omega, h⟩
theorem toB_ge (D K : List Int) : ∀ n, -1 ≤ toB D K n
 | 0 => by unfold toB; omega
 | n + 1 => by
   have := toB_ge D K n
   rw [toB]; split <;> omega
theorem toB_neg {D K : List Int} : ∀ {n : Nat}, toB D K n < 0 → ∀ i, i < n → 0 < K.getD i 0 → 1125899906842624 ≤ D.getD i 0
 | 0, _, i, hi, _ => absurd hi (Nat.not_lt_zero _)
 | n + 1, h, i, hi, hk => by
   rw [toB] at h
   split at h
   · omega
   · rename_i q
     by_cases e : i = n
     · subst e
       rcases Int.lt_or_le (D.getD i 0) 1125899906842624 with z | z
       · exact absurd ⟨hk, z, .inl h⟩ q
       · exact z
     · exact toB_neg h i (by omega) hk
theorem toB_pos {D K : List Int} : ∀ {n : Nat}, 0 ≤ toB D K n → (toB D K n).toNat < n ∧ 0 < K.getD (toB D K n).toNat 0 ∧ D.getD (toB D K n).toNat 0 < 1125899906842624
 | 0, h => by unfold toB at h; omega
 | n + 1, h => by
   rw [toB] at h ⊢
   split at h
   · rename_i q
     rw [if_pos q, Int.toNat_natCast]
     exact ⟨Nat.lt_succ_self _, q.1, q.2.1⟩
   · rename_i q
     rw [if_neg q]
     have := toB_pos h
     exact ⟨by omega, this.2⟩
theorem stpD_none {s : Int × Bool} : stpD s = none ↔ s.1 < 0 := by
 unfold stpD; split
 · exact ⟨fun _ => by assumption, fun _ => rfl⟩
 · exact ⟨fun z => (by cases z), fun z => (by omega)⟩
theorem stpD_some {s : Int × Bool} (h : 0 ≤ s.1) : stpD s = some (s.1.toNat, s.2) := by unfold stpD; rw [if_neg (by omega)]
theorem ch_bound {G : Nw} (hG : G.Ok) {f left p dist : Nat → Int} {b : Nat → Option (Nat × Bool)} (hw : G.Wy f left p dist b) {Q : Nat × Bool → Prop} {v n r : Nat} (h : G.Ch b Q v n r) (hv : v < G.N) : n < G.N := by
 obtain ⟨L, h1, h2, h3, _⟩ := G.ch_list (N := G.N) (fun v e hv he => (Nw.hd_lt hG (hw.st v e hv he).1.1).2) h hv
 have := nodup_len h2 h3
 omega
structure SvI (N : Nat) (h w : List Int) (A : List Arc) (L K : List Int) (B : List Arc) (p : Nat → Int) (s : Int) : Prop where
 sm : Sm A B
 ll : L.length = N
 lk : K.length = N
 st : (nwA N A).St (getI h) (getI w) (floA B) (getI L) (getI K)
 pt : (nwA N A).Pot (getI h) (floA B) (getI L) p
 cs : s = (nwA N A).cost (floA B)
 sb : 0 ≤ s ∧ s ≤ 1000000000 * (su (getI w) N - su (getI K) N)
 fb : ∀ k, k < A.length → 0 ≤ floA B k ∧ floA B k ≤ 1000 * (su (getI w) N - su (getI K) N)
structure AugB (A : List Arc) (B C : List Arc) (m : Int) (n0 n : Nat) : Prop where
 le : n ≤ n0
 fb : ∀ k, k < A.length → floA C k + m * (n : Int) ≤ floA B k + m * (n0 : Int)
theorem su_bd {F : Nat → Int} {b : Int} : ∀ {n : Nat}, (∀ v, v < n → 0 ≤ F v ∧ F v ≤ b) → 0 ≤ su F n ∧ su F n ≤ b * n
 | 0, _ => ⟨Int.le_refl _, by simp [su]⟩
 | n + 1, h => by
   have := su_bd (n := n) (fun v hv => h v (by omega))
   have h2 := h n (by omega)
   rw [su]
   have : b * ((n + 1 : Nat) : Int) = b * n + b := by rw [Int.natCast_add, Int.mul_add]; simp
   omega
set_option maxHeartbeats 16000000 in
theorem p60 (h w : List Int) (A : List Arc) (hA : ArOk h.length A) (hn : h.length ≤ 1000) (hwl : w.length = h.length) (hh : ∀ v, v < h.length → 0 ≤ getI h v ∧ getI h v ≤ 1000) (hw : ∀ v, v < h.length → 0 ≤ getI w v ∧ getI w v ≤ 1000) :
 FSpec Tryz.prog 60 [.ptr 1000000 0] (tpB h w A) (fun y r => ∃ B, (Sm A B ∧ SolR (nwA h.length A) (getI h) (getI w) (floA B) y) ∧ r = tpB h w B) := by
 have hAl := hA.len
 have hG := nwA_ok hA
 have hcC : ∀ k, k < (nwA h.length A).K → (nwA h.length A).c k ≤ 1000000 := fun k hk => (hA.car k hk).2
 have hNb : 1000000 * ((nwA h.length A).N : Int) + 1000000 < farD := by show 1000000 * (h.length : Int) + 1000000 < 1125899906842624; omega
 have hsw := su_bd hw
 refine spec_of hT (C := []) Tryz.func60 rfl Tryz.call60 rfl rfl rfl ?_
 conv => whnf
 refine RegX.rule hT rfl [] oVPfO60_1 (by decide +kernel) ?_
 conv => whnf
 repeat' (first | (refine CallX.of (p80 h (by omega)) [(7, 22)] rfl ⟨lr, trivial⟩ trivial rfl rfl ?_; rintro x rout ⟨rfl, rfl⟩; refine ⟨rfl, ?_⟩; conv => whnf) | (refine CallX.of (p80 w (by omega)) [(7, 27)] rfl ⟨lr, trivial⟩ trivial rfl rfl ?_; rintro x rout ⟨rfl, rfl⟩; refine ⟨rfl, ?_⟩; conv => whnf) | (refine br_intro ?_ ?_ <;> intro hb <;> (try simp only [brs] at hb) <;> conv => whnf) | (refine RegX.rule (id := 1) hT rfl [] oVPfO60_1 (by decide +kernel) ?_; conv => whnf) | (refine RegX.rule (id := 14) hT rfl [] oVPfO60_14 (by decide +kernel) ?_; conv => whnf) | (refine RegX.rule (id := 21) hT rfl [] oVPfO60_21 (by decide +kernel) ?_; conv => whnf) | (refine RegX.rule (id := 23) hT rfl [] oVPfO60_23 (by decide +kernel) ?_; conv => whnf) | (refine RegX.rule (id := 31) hT rfl [] oVPfO60_31 (by decide +kernel) ?_; conv => whnf) | omega | (refine And.intro ?_ ?_; ((try dsimp only); first | omega | (refine szA rfl ?_; omega) | (refine szB rfl ?_; omega) | (unfold inI64; omega) | exact rfl | (simp only [lns] at *; omega) | decide | (unfold inI64; decide)); conv => whnf) | decide | assumption)
 refine LoopX.rule hT (C := []) (ι := Nat × List Arc) (fun (i, B) => i ≤ A.length ∧ Sm A B ∧ ∀ k, k < i → floA B k = 0) (fun (i, B) => mkSt [(0, .ptr 1000000 0), (4, .buf 22), (5, .buf 27), (32, .d (.int .i64 A.length)), (33, .d (.int .i64 i))] (tpB h w B ++ [(22, seqB 3 1 iF 0 h), (27, seqB 3 1 iF 0 w)])) (fun (i, _) => A.length - i) (0, A) ⟨by show 0 ≤ _; omega, Sm.refl A, fun k hk => absurd hk (Nat.not_lt_zero k)⟩ ?_ ?_
 · exact Entails.mk' [(1000000, 1000000), (1000001, 1000001), (1000002, 1000002), (1000003, 1000003), (22, 22), (27, 27)] rfl rfl ⟨lr, lr, lr, lr, lr, trivial⟩ ⟨rr, rr, rr, rr, rr, rr, trivial⟩
 rintro ⟨i, B⟩ ⟨hi, hS, hz⟩
 have hi : i ≤ A.length := hi
 have e1 : (i : Int).toNat = i := Int.toNat_natCast i
 have hBl := hS.len
 rcases Nat.lt_or_ge i A.length with hiA | hiA
 · conv => whnf
   repeat' (first | (refine br_intro ?_ ?_ <;> intro hb <;> (try simp only [brs] at hb) <;> conv => whnf) | (refine RegX.rule (id := 1) hT rfl [] oVPfO60_1 (by decide +kernel) ?_; conv => whnf) | (refine RegX.rule (id := 14) hT rfl [] oVPfO60_14 (by decide +kernel) ?_; conv => whnf) | (refine RegX.rule (id := 21) hT rfl [] oVPfO60_21 (by decide +kernel) ?_; conv => whnf) | (refine RegX.rule (id := 23) hT rfl [] oVPfO60_23 (by decide +kernel) ?_; conv => whnf) | (refine RegX.rule (id := 31) hT rfl [] oVPfO60_31 (by decide +kernel) ?_; conv => whnf) | omega | (refine And.intro ?_ ?_; ((try dsimp only); first | omega | (refine szA rfl ?_; omega) | (refine szB rfl ?_; omega) | (unfold inI64; omega) | exact rfl | (simp only [lns] at *; omega) | decide | (unfold inI64; decide)); conv => whnf) | decide | assumption)
   all_goals try (exfalso; omega)
   refine ⟨(i + 1, B.set (i : Int).toNat { B.getD (i : Int).toNat ar0 with flow := 0 }), ⟨by omega, hS.set _ _, fun k hk => ?_⟩, by show A.length - (i + 1) < A.length - i; omega, Entails.mk' [(1000000, 1000000), (1000001, 1000001), (1000002, 1000002), (1000003, 1000003), (22, 22), (27, 27)] rfl rfl ⟨lr, lr, lr, lr, lr, trivial⟩ ⟨rr, rr, rr, Res.le_upd (f := arF) (d := ar0) (l := B) (fun a : Arc => ({ a with flow := 0 } : Arc)) (fun y => rfl), rr, rr, trivial⟩⟩
   rw [e1, floA_set (by omega)]
   by_cases q : k = i
   · rw [q, upd_self]
   · rw [upd_ne q]; exact hz k (by omega)
 · have hiA : i = A.length := by omega
   rw [hiA]
   conv => whnf
   repeat' (first | (refine br_intro ?_ ?_ <;> intro hb <;> (try simp only [brs] at hb) <;> conv => whnf) | (refine RegX.rule (id := 1) hT rfl [] oVPfO60_1 (by decide +kernel) ?_; conv => whnf) | (refine RegX.rule (id := 14) hT rfl [] oVPfO60_14 (by decide +kernel) ?_; conv => whnf) | (refine RegX.rule (id := 21) hT rfl [] oVPfO60_21 (by decide +kernel) ?_; conv => whnf) | (refine RegX.rule (id := 23) hT rfl [] oVPfO60_23 (by decide +kernel) ?_; conv => whnf) | (refine RegX.rule (id := 31) hT rfl [] oVPfO60_31 (by decide +kernel) ?_; conv => whnf) | omega | (refine And.intro ?_ ?_; ((try dsimp only); first | omega | (refine szA rfl ?_; omega) | (refine szB rfl ?_; omega) | (unfold inI64; omega) | exact rfl | (simp only [lns] at *; omega) | decide | (unfold inI64; decide)); conv => whnf) | decide | assumption)
   all_goals try (exfalso; omega)
   have hst := Nw.st_init (G := nwA h.length A) (have_ := getI h) (want := getI w) (fun v hv => (hh v hv).1) (fun v hv => (hw v hv).1) hG
   have hf0 : ∀ k, k < A.length → floA B k = 0 := fun k hk => hz k (by omega)
   have hI0 : SvI h.length h w A h w B (fun _ => 0) 0 := by
    have ec : (nwA h.length A).cost (floA B) = 0 := by
     unfold Nw.cost
     exact su_zero fun k hk => by rw [hf0 k hk]; simp
    have en : ∀ v, (nwA h.length A).net (floA B) v = (nwA h.length A).net (fun _ => 0) v := fun v => by
     unfold Nw.net
     exact su_congr fun k hk => by rw [hf0 k hk]
    refine ⟨hS, rfl, hwl, ⟨fun k hk => by rw [hf0 k hk]; exact Int.le_refl _, hst.1.left0, hst.1.lack0, fun v hv => by rw [en]; exact hst.1.net v hv⟩, ⟨hst.2.1.p0, hst.2.1.ar, fun k hk hp => by rw [hf0 k hk] at hp; omega, hst.2.1.left⟩, ec.symm, by omega, fun k hk => by rw [hf0 k hk]; omega⟩
   refine LoopX.rule hT (C := []) (ι := List Int × List Int × List Arc × (Nat → Int) × Int) (fun (L, K, B, p, s) => SvI h.length h w A L K B p s) (fun (L, K, B, p, s) => mkSt [(0, .ptr 1000000 0), (4, .buf 22), (5, .buf 27), (7, .d (.int .i64 s))] (tpB h w B ++ [(22, seqB 3 1 iF 0 L), (27, seqB 3 1 iF 0 K)])) (fun (_, K, _, _, _) => (su (getI K) h.length).toNat) (h, w, B, fun _ => 0, 0) hI0 ?_ ?_
   · exact Entails.mk' [(1000000, 1000000), (1000001, 1000001), (1000002, 1000002), (1000003, 1000003), (22, 22), (27, 27)] rfl rfl ⟨lr, lr, lr, lr, trivial⟩ ⟨rr, rr, rr, rr, rr, rr, trivial⟩
   clear hI0 hst hf0 hz hS hBl hiA hi e1
   rintro ⟨L, K, B, p, s⟩ hI
   have hI : SvI h.length h w A L K B p s := hI
   have hLl := hI.ll
   have hKl := hI.lk
   have hBl := hI.sm.len
   have hpt : (nwA h.length B).Pot (getI h) (floA B) (getI L) p := by rw [hI.sm.nw]; exact hI.pt
   conv => whnf
   repeat' (first | (refine CallX.of (p263 h w B L (hI.sm.ok hA) hn hI.ll p hpt) [(1000000, 1000000), (1000001, 1000001), (1000002, 1000002), (1000003, 1000003), (1000004, 22)] rfl ⟨lr, lr, trivial⟩ ⟨rr, rr, rr, rr, rr, trivial⟩ rfl rfl ?_; rintro x rout ⟨⟨D, E, ⟨hDl, hEl⟩, hW, hBd, hFi, rfl⟩, rfl⟩; refine ⟨rfl, ?_⟩; conv => whnf) | (refine br_intro ?_ ?_ <;> intro hb <;> (try simp only [brs] at hb) <;> conv => whnf) | (refine RegX.rule (id := 1) hT rfl [] oVPfO60_1 (by decide +kernel) ?_; conv => whnf) | (refine RegX.rule (id := 14) hT rfl [] oVPfO60_14 (by decide +kernel) ?_; conv => whnf) | (refine RegX.rule (id := 21) hT rfl [] oVPfO60_21 (by decide +kernel) ?_; conv => whnf) | (refine RegX.rule (id := 23) hT rfl [] oVPfO60_23 (by decide +kernel) ?_; conv => whnf) | (refine RegX.rule (id := 31) hT rfl [] oVPfO60_31 (by decide +kernel) ?_; conv => whnf) | omega | (refine And.intro ?_ ?_; ((try dsimp only); first | omega | (refine szA rfl ?_; omega) | (refine szB rfl ?_; omega) | (unfold inI64; omega) | exact rfl | (simp only [lns] at *; omega) | decide | (unfold inI64; decide)); conv => whnf) | decide | assumption)
   rw [hI.sm.nw] at hW hBd hFi
   refine LoopX.rule hT (C := []) (ι := Nat) (fun i => i ≤ K.length) (fun i => mkSt [(0, .ptr 1000000 0), (4, .buf 22), (5, .buf 27), (7, .d (.int .i64 s)), (8, .d (ints D)), (9, .d (steps E)), (10, .d (.int .i64 (toB D K i))), (11, .d (.bool (wanB K i))), (50, .buf 27), (51, .d (.int .i64 K.length)), (52, .d (.int .i64 i))] (tpB h w B ++ [(22, seqB 3 1 iF 0 L), (27, seqB 3 1 iF 0 K)])) (fun i => K.length - i) 0 (by show 0 ≤ _; omega) ?_ ?_
   · exact Entails.mk' [(1000000, 1000000), (1000001, 1000001), (1000002, 1000002), (1000003, 1000003), (22, 22), (27, 27)] rfl rfl ⟨lr, lr, lr, lr, lr, lr, lr, lr, lr, lr, lr, trivial⟩ ⟨rr, rr, rr, rr, rr, rr, trivial⟩
   rintro i hi
   have hi : i ≤ K.length := hi
   have e1 : (i : Int).toNat = i := Int.toNat_natCast i
   have ht1 := toB_ge D K i
   have ht2 : 0 ≤ toB D K i → (toB D K i).toNat < i := fun z => (toB_pos z).1
   rcases Nat.lt_or_ge i K.length with hiK | hiK
   · conv => whnf
     repeat' (first | (refine br_intro ?_ ?_ <;> intro hb <;> (try simp only [brs] at hb) <;> conv => whnf) | (refine RegX.rule (id := 1) hT rfl [] oVPfO60_1 (by decide +kernel) ?_; conv => whnf) | (refine RegX.rule (id := 14) hT rfl [] oVPfO60_14 (by decide +kernel) ?_; conv => whnf) | (refine RegX.rule (id := 21) hT rfl [] oVPfO60_21 (by decide +kernel) ?_; conv => whnf) | (refine RegX.rule (id := 23) hT rfl [] oVPfO60_23 (by decide +kernel) ?_; conv => whnf) | (refine RegX.rule (id := 31) hT rfl [] oVPfO60_31 (by decide +kernel) ?_; conv => whnf) | omega | (refine And.intro ?_ ?_; ((try dsimp only); first | omega | (refine szA rfl ?_; omega) | (refine szB rfl ?_; omega) | (unfold inI64; omega) | exact rfl | (simp only [lns] at *; omega) | decide | (unfold inI64; decide)); conv => whnf) | decide | assumption)
     all_goals try (exfalso; omega)
     all_goals
      simp only [e1] at *
      refine ⟨i + 1, by omega, by omega, Entails.mk' [(1000000, 1000000), (1000001, 1000001), (1000002, 1000002), (1000003, 1000003), (22, 22), (27, 27)] rfl rfl ⟨lr, lr, lr, lr, lr, lr, SV.le_int ?_, SV.le_bool ?_, lr, lr, lr, trivial⟩ ⟨rr, rr, rr, rr, rr, rr, trivial⟩⟩
     all_goals first
      | (rw [toB]; split <;> omega)
      | (unfold wanB; cases hwb : wanB K i <;> simp_all <;> omega)
   · have hiK : i = K.length := by omega
     rw [hiK]
     clear ht1 ht2 e1
     rcases Int.lt_or_le (toB D K K.length) 0 with htn | htn
     · have hfar := toB_neg htn
       conv => whnf
       repeat' (first | (refine br_intro ?_ ?_ <;> intro hb <;> (try simp only [brs] at hb) <;> conv => whnf) | (refine RegX.rule (id := 1) hT rfl [] oVPfO60_1 (by decide +kernel) ?_; conv => whnf) | (refine RegX.rule (id := 14) hT rfl [] oVPfO60_14 (by decide +kernel) ?_; conv => whnf) | (refine RegX.rule (id := 21) hT rfl [] oVPfO60_21 (by decide +kernel) ?_; conv => whnf) | (refine RegX.rule (id := 23) hT rfl [] oVPfO60_23 (by decide +kernel) ?_; conv => whnf) | (refine RegX.rule (id := 31) hT rfl [] oVPfO60_31 (by decide +kernel) ?_; conv => whnf) | omega | (refine And.intro ?_ ?_; ((try dsimp only); first | omega | (refine szA rfl ?_; omega) | (refine szB rfl ?_; omega) | (unfold inI64; omega) | exact rfl | (simp only [lns] at *; omega) | decide | (unfold inI64; decide)); conv => whnf) | decide | assumption)
       all_goals try (exfalso; omega)
       have hsk : 0 ≤ su (getI K) h.length := su_nn fun v hv => (hI.st.lack0 v hv).1
       have hsb := hI.sb
       cases hwn : wanB K K.length with
       | false =>
         have hz : ∀ v, v < h.length → getI K v = 0 := fun v hv => by
          have h1 := wanB_false hwn v (by omega)
          have h2 := (hI.st.lack0 v hv).1
          unfold getI at h2 ⊢; omega
         refine .weak _ ?_
         conv => whnf
         refine ⟨.tup [.d (.int .i64 s), .d (.bool true)], _, SV.le_tup ⟨lr, SV.le_bool rfl, trivial⟩, ⟨B, ⟨hI.sm, .inl ⟨getI L, p, ⟨hI.st.f0, hI.st.left0, fun v hv => ⟨Int.le_refl _, (hw v hv).1⟩, fun v hv => ?_⟩, hI.pt, ?_, by rw [hI.cs]⟩⟩, rfl⟩, rr, rr, rr, rr, trivial⟩
         · have h1 := hI.st.net v hv
           rw [hz v hv] at h1; exact h1
         · rw [← hI.cs]; omega
       | true =>
         obtain ⟨t, ht, hk⟩ := wanB_true hwn
         refine .weak _ ?_
         conv => whnf
         exact ⟨.tup [.d (.int .i64 s), .d (.bool false)], _, SV.le_tup ⟨lr, SV.le_bool rfl, trivial⟩, ⟨B, ⟨hI.sm, .inr ⟨fun g => Nw.noway hG (by omega) hNb hcC hI.st hW hBd hFi (t := t) (by show t < h.length; omega) hk (hfar t ht hk) g, s, rfl⟩⟩, rfl⟩, rr, rr, rr, rr, trivial⟩
     · obtain ⟨T1, hT1⟩ : ∃ T1 : Nat, toB D K K.length = (T1 : Int) := ⟨_, (Int.toNat_of_nonneg htn).symm⟩
       have hTp := toB_pos htn
       rw [hT1, Int.toNat_natCast] at hTp
       obtain ⟨hTl, hTk, hTd⟩ := hTp
       rw [hT1]
       clear htn hT1
       have eT : (T1 : Int).toNat = T1 := Int.toNat_natCast T1
       obtain ⟨n0, r0, hch0⟩ := hW.rt T1 (by show T1 < h.length; omega) hTd
       conv => whnf
       repeat' (first | (refine br_intro ?_ ?_ <;> intro hb <;> (try simp only [brs] at hb) <;> conv => whnf) | (refine RegX.rule (id := 1) hT rfl [] oVPfO60_1 (by decide +kernel) ?_; conv => whnf) | (refine RegX.rule (id := 14) hT rfl [] oVPfO60_14 (by decide +kernel) ?_; conv => whnf) | (refine RegX.rule (id := 21) hT rfl [] oVPfO60_21 (by decide +kernel) ?_; conv => whnf) | (refine RegX.rule (id := 23) hT rfl [] oVPfO60_23 (by decide +kernel) ?_; conv => whnf) | (refine RegX.rule (id := 31) hT rfl [] oVPfO60_31 (by decide +kernel) ?_; conv => whnf) | omega | (refine And.intro ?_ ?_; ((try dsimp only); first | omega | (refine szA rfl ?_; omega) | (refine szB rfl ?_; omega) | (unfold inI64; omega) | exact rfl | (simp only [lns] at *; omega) | decide | (unfold inI64; decide)); conv => whnf) | decide | assumption)
       all_goals try (exfalso; omega)
       refine LoopX.rule hT (C := []) (ι := Nat × Int × Nat) (fun (a, m, n) => (nwA h.length A).Bot (floA B) (getI D) (getB E) T1 (K.getD T1 0) a m ∧ ∃ r, (nwA h.length A).Ch (getB E) (fun _ => True) a n r) (fun (a, m, n) => mkSt [(0, .ptr 1000000 0), (4, .buf 22), (5, .buf 27), (7, .d (.int .i64 s)), (8, .d (ints D)), (9, .d (steps E)), (10, .d (.int .i64 T1)), (14, .d (.int .i64 m)), (15, .d (.int .i64 a))] (tpB h w B ++ [(22, seqB 3 1 iF 0 L), (27, seqB 3 1 iF 0 K)])) (fun (_, _, n) => n) (T1, K.getD T1 0, n0) ⟨⟨fun m' n' r _ hc => ⟨n', hc⟩, by show T1 < h.length; omega, hTd, by omega, Int.le_refl _⟩, r0, hch0⟩ ?_ ?_
       · exact Entails.mk' [(1000000, 1000000), (1000001, 1000001), (1000002, 1000002), (1000003, 1000003), (22, 22), (27, 27)] rfl rfl ⟨lr, lr, lr, lr, lr, lr, lr, lr, lr, trivial⟩ ⟨rr, rr, rr, rr, rr, rr, trivial⟩
       rintro ⟨a, m, n⟩ ⟨hBot, r, hCh⟩
       have hBot : (nwA h.length A).Bot (floA B) (getI D) (getB E) T1 (K.getD T1 0) a m := hBot
       have hCh : (nwA h.length A).Ch (getB E) (fun _ => True) a n r := hCh
       have haN : a < h.length := hBot.aN
       have ea : (a : Int).toNat = a := Int.toNat_natCast a
       have hm1 := hBot.m1
       have hKT := hI.st.lack0 T1 (by show T1 < h.length; omega)
       have hwT := hw T1 (by omega)
       have hKT2 : K.getD T1 0 ≤ 1000 := by unfold getI at hKT hwT; omega
       rcases Int.lt_or_le (E.getD a (0, false)).1 0 with hst | hst
       · have hn0 : getB E a = none := stpD_none.2 hst
         have hLa : 0 < L.getD a 0 := hW.root a haN hn0 hBot.dn
         have hLh := (hI.st.left0 a haN).2
         have hha := (hh a haN).2
         have hLa2 : L.getD a 0 ≤ 1000 := by unfold getI at hLh hha; omega
         obtain ⟨m1, hm1e⟩ : ∃ m1, min m (L.getD a 0) = m1 := ⟨_, rfl⟩
         have hm1b : (1 ≤ m1 ∧ m1 ≤ m) ∧ m1 ≤ L.getD a 0 := by omega
         obtain ⟨n1, hch1⟩ := hBot.done hn0 (m' := m1) (by omega)
         have hn1 : n1 < h.length := ch_bound hG hW hch1 (by show T1 < h.length; omega)
         have hDn : 0 ≤ D.getD T1 0 := (hW.nn hI.pt (by show T1 < h.length; omega)).1
         have hDb : D.getD T1 0 ≤ 1000000000 := by
          have h1 := hBd T1 (by show T1 < h.length; omega) hTd
          have h2 := (nwA h.length A).cnt_bd (getI D)
          have h3 : ((nwA h.length A).N : Int) = h.length := rfl
          unfold getI at h1 h2; omega
         have hmul : 0 ≤ m1 * D.getD T1 0 ∧ m1 * D.getD T1 0 ≤ 1000000000 * m1 := by
          refine ⟨Int.mul_nonneg (by omega) hDn, ?_⟩
          rw [Int.mul_comm]
          exact Int.mul_le_mul_of_nonneg_right hDb (by omega)
         have hsk : 0 ≤ su (getI K) h.length := su_nn fun v hv => (hI.st.lack0 v hv).1
         have hsb := hI.sb
         have hst' := hst
         have hm1' : min m (L.getD (a : Int).toNat 0) = m1 := by rw [ea]; exact hm1e
         rw [← ea] at hst' hLa hLa2
         conv => whnf
         repeat' (first | (refine And.intro (show inI64 (L.getD (a : Int).toNat 0 - min m (L.getD (a : Int).toNat 0)) by unfold inI64; omega) ?_; conv => whnf) | (refine And.intro (show inI64 (K.getD (T1 : Int).toNat 0 - min m (L.getD (a : Int).toNat 0)) by rw [eT]; unfold inI64; omega) ?_; conv => whnf) | (refine And.intro (show inI64 (min m (L.getD (a : Int).toNat 0) * D.getD (T1 : Int).toNat 0) by rw [hm1', eT]; unfold inI64; omega) ?_; conv => whnf) | (refine And.intro (show inI64 (s + min m (L.getD (a : Int).toNat 0) * D.getD (T1 : Int).toNat 0) by rw [hm1', eT]; unfold inI64; omega) ?_; conv => whnf) | (refine br_intro ?_ ?_ <;> intro hb <;> (try simp only [brs] at hb) <;> conv => whnf) | (refine RegX.rule (id := 1) hT rfl [] oVPfO60_1 (by decide +kernel) ?_; conv => whnf) | (refine RegX.rule (id := 14) hT rfl [] oVPfO60_14 (by decide +kernel) ?_; conv => whnf) | (refine RegX.rule (id := 21) hT rfl [] oVPfO60_21 (by decide +kernel) ?_; conv => whnf) | (refine RegX.rule (id := 23) hT rfl [] oVPfO60_23 (by decide +kernel) ?_; conv => whnf) | (refine RegX.rule (id := 31) hT rfl [] oVPfO60_31 (by decide +kernel) ?_; conv => whnf) | omega | (refine And.intro ?_ ?_; ((try dsimp only); first | omega | (refine szA rfl ?_; omega) | (refine szB rfl ?_; omega) | (unfold inI64; omega) | exact rfl | (simp only [lns] at *; omega) | decide | (unfold inI64; decide)); conv => whnf) | decide | assumption)
         all_goals try (exfalso; omega)
         refine LoopX.rule hT (C := []) (ι := Nat × Nat × List Arc) (fun (b, n, C) => Sm A C ∧ (nwA h.length A).Aug (floA B) (getI D) (getB E) T1 m1 (floA C) b n a ∧ AugB A B C m1 n1 n) (fun (b, n, C) => mkSt [(0, .ptr 1000000 0), (4, .buf 22), (5, .buf 27), (7, .d (.int .i64 (s + m1 * D.getD T1 0))), (9, .d (steps E)), (14, .d (.int .i64 m1)), (15, .d (.int .i64 b))] (tpB h w C ++ [(22, seqB 3 1 iF 0 (L.set a (L.getD a 0 - m1))), (27, seqB 3 1 iF 0 (K.set T1 (K.getD T1 0 - m1)))])) (fun (_, n, _) => n) (T1, n1, B) ⟨hI.sm, Nw.aug_init hch1 (by show T1 < h.length; omega) hTd, ⟨Nat.le_refl _, fun k hk => Int.le_refl _⟩⟩ ?_ ?_
         · refine Entails.mk' [(1000000, 1000000), (1000001, 1000001), (1000002, 1000002), (1000003, 1000003), (22, 22), (27, 27)] rfl rfl ⟨lr, lr, lr, SV.le_int ?_, lr, SV.le_int ?_, lr, trivial⟩ ⟨rr, rr, rr, rr, ?_, ?_, trivial⟩
           · subst hm1e; rfl
           · subst hm1e; rfl
           · subst hm1e; exact Res.le_upd (fun _ => L.getD (a : Int).toNat 0 - min m (L.getD (a : Int).toNat 0)) (fun y => rfl)
           · subst hm1e; exact Res.le_upd (fun _ => K.getD (T1 : Int).toNat 0 - min m (L.getD (a : Int).toNat 0)) (fun y => rfl)
         clear hBot hCh hst hst' hch1 hm1' hb
         rintro ⟨b, n, C⟩ ⟨hS, hAug, hAb⟩
         have hS : Sm A C := hS
         have hAug : (nwA h.length A).Aug (floA B) (getI D) (getB E) T1 m1 (floA C) b n a := hAug
         have hAb : AugB A B C m1 n1 n := hAb
         have hbN : b < h.length := hAug.aN
         have eb : (b : Int).toNat = b := Int.toNat_natCast b
         have hCl := hS.len
         have hmn : 0 ≤ m1 * (n : Int) ∧ m1 * (n1 : Int) ≤ 1000 * m1 := by
          refine ⟨Int.mul_nonneg (by omega) (by omega), ?_⟩
          rw [Int.mul_comm]
          exact Int.mul_le_mul_of_nonneg_right (by omega) (by omega)
         rcases Int.lt_or_le (E.getD b (0, false)).1 0 with hst | hst
         · have hst' := hst
           rw [← eb] at hst'
           conv => whnf
           repeat' (first | (refine br_intro ?_ ?_ <;> intro hb <;> (try simp only [brs] at hb) <;> conv => whnf) | (refine RegX.rule (id := 1) hT rfl [] oVPfO60_1 (by decide +kernel) ?_; conv => whnf) | (refine RegX.rule (id := 14) hT rfl [] oVPfO60_14 (by decide +kernel) ?_; conv => whnf) | (refine RegX.rule (id := 21) hT rfl [] oVPfO60_21 (by decide +kernel) ?_; conv => whnf) | (refine RegX.rule (id := 23) hT rfl [] oVPfO60_23 (by decide +kernel) ?_; conv => whnf) | (refine RegX.rule (id := 31) hT rfl [] oVPfO60_31 (by decide +kernel) ?_; conv => whnf) | omega | (refine And.intro ?_ ?_; ((try dsimp only); first | omega | (refine szA rfl ?_; omega) | (refine szB rfl ?_; omega) | (unfold inI64; omega) | exact rfl | (simp only [lns] at *; omega) | decide | (unfold inI64; decide)); conv => whnf) | decide | assumption)
           all_goals try (exfalso; omega)
           have hn0 : getB E b = none := stpD_none.2 hst
           obtain ⟨hn00, hba⟩ : n = 0 ∧ b = a := by
            cases hAug.ch with
            | root _ _ => exact ⟨rfl, rfl⟩
            | step _ _ _ e he _ _ => rw [hn0] at he; cases he
           subst hn00 hba
           obtain ⟨q1, q2, q3⟩ := Nw.next hG (by omega) hNb hcC hI.st hI.pt hW hBd hFi (by show T1 < h.length; omega) hm1b.1.1 (by unfold getI; omega) (by unfold getI; omega) hAug hn0
           have eL : getI (L.set b (L.getD b 0 - m1)) = upd (getI L) b (getI L b - m1) := getI_set (by omega)
           have eK : getI (K.set T1 (K.getD T1 0 - m1)) = upd (getI K) T1 (getI K T1 - m1) := getI_set (by omega)
           have eS : su (getI (K.set T1 (K.getD T1 0 - m1))) h.length = su (getI K) h.length - m1 := by
            rw [eK, su_upd (by omega)]; omega
           have hs2 : 0 ≤ su (getI (K.set T1 (K.getD T1 0 - m1))) h.length := by rw [eK]; exact su_nn fun v hv => (q1.lack0 v hv).1
           refine ⟨(L.set b (L.getD b 0 - m1), K.set T1 (K.getD T1 0 - m1), C, nxP p (getI D), s + m1 * D.getD T1 0), ⟨hS, by rw [List.length_set]; exact hLl, by rw [List.length_set]; exact hKl, by rw [eL, eK]; exact q1, by rw [eL]; exact q2, by rw [q3, hI.cs]; rfl, by rw [eS]; omega, fun k hk => ?_⟩, by show (su (getI (K.set T1 (K.getD T1 0 - m1))) h.length).toNat < (su (getI K) h.length).toNat; omega, ?_⟩
           · have h1 := hAb.fb k hk
             have h2 := hI.fb k hk
             have h3 := hAug.fl k hk
             rw [eS]
             constructor
             · rcases h3 with w | ⟨_, _, _, _, w3, w4⟩ <;> omega
             · simp at h1; omega
           · exact Entails.mk' [(1000000, 1000000), (1000001, 1000001), (1000002, 1000002), (1000003, 1000003), (22, 22), (27, 27)] rfl rfl ⟨lr, lr, lr, lr, trivial⟩ ⟨rr, rr, rr, rr, rr, rr, trivial⟩
         · obtain ⟨k, hk⟩ : ∃ k : Nat, (E.getD b (0, false)).1 = (k : Int) := ⟨_, (Int.toNat_of_nonneg hst).symm⟩
           obtain ⟨bb, hbk⟩ : ∃ bb, (E.getD b (0, false)).2 = bb := ⟨_, rfl⟩
           have he : getB E b = some (k, bb) := by unfold getB; rw [stpD_some hst, hk, hbk, Int.toNat_natCast]
           obtain ⟨s1, s2, s3, s4, s5⟩ := hW.st b _ hbN he
           have hk1 : k < A.length := s1.1
           obtain ⟨n', hn', hA2⟩ := hAug.step hG hW hFi (by omega) he
           have hfr := hA.fr _ hk1
           have hto := hA.to _ hk1
           rw [← (hS.fld k).1] at hfr
           rw [← (hS.fld k).2.1] at hto
           have hk' : (E.getD (b : Int).toNat (0, false)).1 = (k : Int) := by rw [eb]; exact hk
           have hk2 : (E.getD (b : Int).toNat (0, false)).1.toNat = k := by rw [hk', Int.toNat_natCast]
           have hCf : 0 ≤ floA C k ∧ floA C k ≤ 2000000000 := by
            have h1 := hAb.fb k hk1
            have h2 := hI.fb k hk1
            constructor
            · rcases hAug.fl k hk1 with w | ⟨_, _, _, _, w3, w4⟩ <;> omega
            · omega
           have hCf' : 0 ≤ (C.getD (E.getD (b : Int).toNat (0, false)).1.toNat ar0).flow ∧ (C.getD (E.getD (b : Int).toNat (0, false)).1.toNat ar0).flow ≤ 2000000000 := by rw [hk2]; exact hCf
           have emn : m1 * (n : Int) = m1 * (n' : Int) + m1 := by rw [hn', Int.natCast_add, Int.mul_add]; simp
           cases bb with
           | true =>
             have hb2 : (E.getD (b : Int).toNat (0, false)).2 = true := by rw [eb]; exact hbk
             conv => whnf
             repeat' (first | (refine br_intro ?_ ?_ <;> intro hb <;> (try simp only [brs] at hb) <;> conv => whnf) | (refine RegX.rule (id := 1) hT rfl [] oVPfO60_1 (by decide +kernel) ?_; conv => whnf) | (refine RegX.rule (id := 14) hT rfl [] oVPfO60_14 (by decide +kernel) ?_; conv => whnf) | (refine RegX.rule (id := 21) hT rfl [] oVPfO60_21 (by decide +kernel) ?_; conv => whnf) | (refine RegX.rule (id := 23) hT rfl [] oVPfO60_23 (by decide +kernel) ?_; conv => whnf) | (refine RegX.rule (id := 31) hT rfl [] oVPfO60_31 (by decide +kernel) ?_; conv => whnf) | omega | (refine And.intro ?_ ?_; ((try dsimp only); first | omega | (refine szA rfl ?_; omega) | (refine szB rfl ?_; omega) | (unfold inI64; omega) | exact rfl | (simp only [lns] at *; omega) | decide | (unfold inI64; decide)); conv => whnf) | decide | assumption)
             all_goals try (exfalso; omega)
             all_goals try (rw [hbk] at hb; cases hb; done)
             simp only [Nat.beq_refl, cond_true]
             conv => whnf
             repeat' (first | (refine br_intro ?_ ?_ <;> intro hb <;> (try simp only [brs] at hb) <;> conv => whnf) | (refine RegX.rule (id := 1) hT rfl [] oVPfO60_1 (by decide +kernel) ?_; conv => whnf) | (refine RegX.rule (id := 14) hT rfl [] oVPfO60_14 (by decide +kernel) ?_; conv => whnf) | (refine RegX.rule (id := 21) hT rfl [] oVPfO60_21 (by decide +kernel) ?_; conv => whnf) | (refine RegX.rule (id := 23) hT rfl [] oVPfO60_23 (by decide +kernel) ?_; conv => whnf) | (refine RegX.rule (id := 31) hT rfl [] oVPfO60_31 (by decide +kernel) ?_; conv => whnf) | omega | (refine And.intro ?_ ?_; ((try dsimp only); first | omega | (refine szA rfl ?_; omega) | (refine szB rfl ?_; omega) | (unfold inI64; omega) | exact rfl | (simp only [lns] at *; omega) | decide | (unfold inI64; decide)); conv => whnf) | decide | assumption)
             have hA2 : (nwA h.length A).Aug (floA B) (getI D) (getB E) T1 m1 (upd (floA C) k (floA C k - m1)) (A.getD k ar0).to.toNat n' a := hA2
             have eC : floA (C.set k { C.getD k ar0 with flow := (C.getD k ar0).flow - m1 }) = upd (floA C) k (floA C k - m1) := floA_set (by omega)
             refine ⟨((A.getD k ar0).to.toNat, n', C.set k { C.getD k ar0 with flow := (C.getD k ar0).flow - m1 }), ⟨hS.set _ _, by rw [eC]; exact hA2, ⟨by have := hAb.le; show n' ≤ n1; omega, fun j hj => ?_⟩⟩, by show n' < n; omega, Entails.mk' [(1000000, 1000000), (1000001, 1000001), (1000002, 1000002), (1000003, 1000003), (22, 22), (27, 27)] rfl rfl ⟨lr, lr, lr, lr, lr, lr, SV.le_int ?_, trivial⟩ ⟨rr, rr, rr, ?_, rr, rr, trivial⟩⟩
             · have h1 := hAb.fb j hj
               show floA (C.set k { C.getD k ar0 with flow := (C.getD k ar0).flow - m1 }) j + m1 * (n' : Int) ≤ floA B j + m1 * (n1 : Int)
               rw [eC]
               by_cases q : j = k
               · subst q; rw [upd_self]; omega
               · rw [upd_ne q]; omega
             · show (C.getD (E.getD (b : Int).toNat (0, false)).1.toNat ar0).to = _
               exact (by rw [hk2, ← (hS.fld k).2.1]; omega)
             · rw [← hk2]
               exact Res.le_upd (f := arF) (d := ar0) (l := C) (fun x : Arc => ({ x with flow := (C.getD (E.getD (b : Int).toNat (0, false)).1.toNat ar0).flow - m1 } : Arc)) (fun y => rfl)
           | false =>
             have hb2 : (E.getD (b : Int).toNat (0, false)).2 = false := by rw [eb]; exact hbk
             conv => whnf
             repeat' (first | (refine br_intro ?_ ?_ <;> intro hb <;> (try simp only [brs] at hb) <;> conv => whnf) | (refine RegX.rule (id := 1) hT rfl [] oVPfO60_1 (by decide +kernel) ?_; conv => whnf) | (refine RegX.rule (id := 14) hT rfl [] oVPfO60_14 (by decide +kernel) ?_; conv => whnf) | (refine RegX.rule (id := 21) hT rfl [] oVPfO60_21 (by decide +kernel) ?_; conv => whnf) | (refine RegX.rule (id := 23) hT rfl [] oVPfO60_23 (by decide +kernel) ?_; conv => whnf) | (refine RegX.rule (id := 31) hT rfl [] oVPfO60_31 (by decide +kernel) ?_; conv => whnf) | omega | (refine And.intro ?_ ?_; ((try dsimp only); first | omega | (refine szA rfl ?_; omega) | (refine szB rfl ?_; omega) | (unfold inI64; omega) | exact rfl | (simp only [lns] at *; omega) | decide | (unfold inI64; decide)); conv => whnf) | decide | assumption)
             all_goals try (exfalso; omega)
             all_goals try (rw [hbk] at hb; cases hb; done)
             simp only [Nat.beq_refl, cond_true]
             conv => whnf
             repeat' (first | (refine br_intro ?_ ?_ <;> intro hb <;> (try simp only [brs] at hb) <;> conv => whnf) | (refine RegX.rule (id := 1) hT rfl [] oVPfO60_1 (by decide +kernel) ?_; conv => whnf) | (refine RegX.rule (id := 14) hT rfl [] oVPfO60_14 (by decide +kernel) ?_; conv => whnf) | (refine RegX.rule (id := 21) hT rfl [] oVPfO60_21 (by decide +kernel) ?_; conv => whnf) | (refine RegX.rule (id := 23) hT rfl [] oVPfO60_23 (by decide +kernel) ?_; conv => whnf) | (refine RegX.rule (id := 31) hT rfl [] oVPfO60_31 (by decide +kernel) ?_; conv => whnf) | omega | (refine And.intro ?_ ?_; ((try dsimp only); first | omega | (refine szA rfl ?_; omega) | (refine szB rfl ?_; omega) | (unfold inI64; omega) | exact rfl | (simp only [lns] at *; omega) | decide | (unfold inI64; decide)); conv => whnf) | decide | assumption)
             have hA2 : (nwA h.length A).Aug (floA B) (getI D) (getB E) T1 m1 (upd (floA C) k (floA C k + m1)) (A.getD k ar0).fr.toNat n' a := hA2
             have eC : floA (C.set k { C.getD k ar0 with flow := (C.getD k ar0).flow + m1 }) = upd (floA C) k (floA C k + m1) := floA_set (by omega)
             refine ⟨((A.getD k ar0).fr.toNat, n', C.set k { C.getD k ar0 with flow := (C.getD k ar0).flow + m1 }), ⟨hS.set _ _, by rw [eC]; exact hA2, ⟨by have := hAb.le; show n' ≤ n1; omega, fun j hj => ?_⟩⟩, by show n' < n; omega, Entails.mk' [(1000000, 1000000), (1000001, 1000001), (1000002, 1000002), (1000003, 1000003), (22, 22), (27, 27)] rfl rfl ⟨lr, lr, lr, lr, lr, lr, SV.le_int ?_, trivial⟩ ⟨rr, rr, rr, ?_, rr, rr, trivial⟩⟩
             · have h1 := hAb.fb j hj
               show floA (C.set k { C.getD k ar0 with flow := (C.getD k ar0).flow + m1 }) j + m1 * (n' : Int) ≤ floA B j + m1 * (n1 : Int)
               rw [eC]
               by_cases q : j = k
               · subst q; rw [upd_self]; omega
               · rw [upd_ne q]; omega
             · show (C.getD (E.getD (b : Int).toNat (0, false)).1.toNat ar0).fr = _
               exact (by rw [hk2, ← (hS.fld k).1]; omega)
             · rw [← hk2]
               exact Res.le_upd (f := arF) (d := ar0) (l := C) (fun x : Arc => ({ x with flow := (C.getD (E.getD (b : Int).toNat (0, false)).1.toNat ar0).flow + m1 } : Arc)) (fun y => rfl)
       · obtain ⟨k, hk⟩ : ∃ k : Nat, (E.getD a (0, false)).1 = (k : Int) := ⟨_, (Int.toNat_of_nonneg hst).symm⟩
         obtain ⟨b, hbk⟩ : ∃ b, (E.getD a (0, false)).2 = b := ⟨_, rfl⟩
         have he : getB E a = some (k, b) := by unfold getB; rw [stpD_some hst, hk, hbk, Int.toNat_natCast]
         obtain ⟨s1, s2, s3, s4, s5⟩ := hW.st a _ haN he
         have hk1 : k < A.length := s1.1
         have hstep := hBot.step hG hW he
         obtain ⟨n', hn', hch'⟩ : ∃ n', n = n' + 1 ∧ (nwA h.length A).Ch (getB E) (fun _ => True) ((nwA h.length A).tl (k, b)) n' r := by
          cases hCh with
          | root _ hv => rw [he] at hv; cases hv
          | step _ n' _ e' he' _ hc => rw [he] at he'; cases he'; exact ⟨n', rfl, hc⟩
         have hfr := hA.fr _ hk1
         have hto := hA.to _ hk1
         rw [← (hI.sm.fld k).1] at hfr
         rw [← (hI.sm.fld k).2.1] at hto
         have hk' : (E.getD (a : Int).toNat (0, false)).1 = (k : Int) := by rw [ea]; exact hk
         have hk2 : (E.getD (a : Int).toNat (0, false)).1.toNat = k := by rw [hk', Int.toNat_natCast]
         cases b with
         | true =>
           have hb2 : (E.getD (a : Int).toNat (0, false)).2 = true := by rw [ea]; exact hbk
           conv => whnf
           repeat' (first | (refine br_intro ?_ ?_ <;> intro hb <;> (try simp only [brs] at hb) <;> conv => whnf) | (refine RegX.rule (id := 1) hT rfl [] oVPfO60_1 (by decide +kernel) ?_; conv => whnf) | (refine RegX.rule (id := 14) hT rfl [] oVPfO60_14 (by decide +kernel) ?_; conv => whnf) | (refine RegX.rule (id := 21) hT rfl [] oVPfO60_21 (by decide +kernel) ?_; conv => whnf) | (refine RegX.rule (id := 23) hT rfl [] oVPfO60_23 (by decide +kernel) ?_; conv => whnf) | (refine RegX.rule (id := 31) hT rfl [] oVPfO60_31 (by decide +kernel) ?_; conv => whnf) | omega | (refine And.intro ?_ ?_; ((try dsimp only); first | omega | (refine szA rfl ?_; omega) | (refine szB rfl ?_; omega) | (unfold inI64; omega) | exact rfl | (simp only [lns] at *; omega) | decide | (unfold inI64; decide)); conv => whnf) | decide | assumption)
           all_goals try (exfalso; omega)
           all_goals try (rw [hbk] at hb; cases hb; done)
           refine ⟨((A.getD k ar0).to.toNat, min m (floA B k), n'), ⟨hstep, r, hch'⟩, by show n' < n; omega, Entails.mk' [(1000000, 1000000), (1000001, 1000001), (1000002, 1000002), (1000003, 1000003), (22, 22), (27, 27)] rfl rfl ⟨lr, lr, lr, lr, lr, lr, lr, SV.le_int ?_, SV.le_int ?_, trivial⟩ ⟨rr, rr, rr, rr, rr, rr, trivial⟩⟩
           · show min m (B.getD (E.getD (a : Int).toNat (0, false)).1.toNat ar0).flow = _
             rw [hk2]; rfl
           · show (B.getD (E.getD (a : Int).toNat (0, false)).1.toNat ar0).to = _
             rw [hk2, ← (hI.sm.fld k).2.1]; omega
         | false =>
           have hb2 : (E.getD (a : Int).toNat (0, false)).2 = false := by rw [ea]; exact hbk
           conv => whnf
           repeat' (first | (refine br_intro ?_ ?_ <;> intro hb <;> (try simp only [brs] at hb) <;> conv => whnf) | (refine RegX.rule (id := 1) hT rfl [] oVPfO60_1 (by decide +kernel) ?_; conv => whnf) | (refine RegX.rule (id := 14) hT rfl [] oVPfO60_14 (by decide +kernel) ?_; conv => whnf) | (refine RegX.rule (id := 21) hT rfl [] oVPfO60_21 (by decide +kernel) ?_; conv => whnf) | (refine RegX.rule (id := 23) hT rfl [] oVPfO60_23 (by decide +kernel) ?_; conv => whnf) | (refine RegX.rule (id := 31) hT rfl [] oVPfO60_31 (by decide +kernel) ?_; conv => whnf) | omega | (refine And.intro ?_ ?_; ((try dsimp only); first | omega | (refine szA rfl ?_; omega) | (refine szB rfl ?_; omega) | (unfold inI64; omega) | exact rfl | (simp only [lns] at *; omega) | decide | (unfold inI64; decide)); conv => whnf) | decide | assumption)
           all_goals try (exfalso; omega)
           all_goals try (rw [hbk] at hb; cases hb; done)
           refine ⟨((A.getD k ar0).fr.toNat, m, n'), ⟨hstep, r, hch'⟩, by show n' < n; omega, Entails.mk' [(1000000, 1000000), (1000001, 1000001), (1000002, 1000002), (1000003, 1000003), (22, 22), (27, 27)] rfl rfl ⟨lr, lr, lr, lr, lr, lr, lr, lr, SV.le_int ?_, trivial⟩ ⟨rr, rr, rr, rr, rr, rr, trivial⟩⟩
           show (B.getD (E.getD (a : Int).toNat (0, false)).1.toNat ar0).fr = _
           rw [hk2, ← (hI.sm.fld k).1]; omega
def netH (l : List Roa) : List DV → Bool
 | [.str a, .str b] => (roadO l a b).isSome
 | _ => false
def netV (l : List Roa) : List DV → List DV
 | [.str a, .str b] => rdF ((roadO l a b).getD rd0)
 | _ => rdF rd0
abbrev netG (l : List Roa) : Res := .map true true [.str, .str] [.str [], .str [], .int .i64 0, .int .i64 0] (netH l) (netV l)
theorem wk_two {key : List DV} (h : wk [.str, .str] key = true) : ∃ a b, key = [.str a, .str b] := by
 cases key with
 | nil => simp [wk] at h
 | cons x key =>
   cases key with
   | nil => simp [wk] at h
   | cons y key =>
     cases key with
     | cons z key => simp [wk] at h
     | nil =>
       simp only [wk, Bool.and_true, Bool.and_eq_true] at h
       cases x <;> simp [wk1] at h
       cases y <;> simp at h
       exact ⟨_, _, rfl⟩
theorem z117 (l : List Roa) (hl : rdsE l = 0) : FSpec Tryz.prog 55 [.d (roas l)] [] (fun y r => y = .mp 3 ∧ r = [(3, netG l)]) := by
 have hl2 := (rds_all hl).1
 refine spec_of hT (C := []) Tryz.func55 rfl Tryz.call55 rfl rfl rfl ?_
 conv => whnf
 refine LoopX.rule hT (C := []) (ι := Nat) (fun i => i ≤ l.length) (fun i => mkSt [(3, .mp 3), (7, .d (roas l)), (8, .d (.int .i64 l.length)), (9, .d (.int .i64 i))] [(3, netR l i)]) (fun i => l.length - i) 0 (by omega) ?_ ?_
 · exact Entails.mk' [(3, 6)] rfl rfl ⟨lr, lr, lr, lr, trivial⟩ ⟨rr, trivial⟩
 rintro i p1
 conv => whnf
 repeat' (first | (refine br_intro ?_ ?_ <;> intro hb <;> (try simp only [brs] at hb) <;> conv => whnf) | omega | (refine And.intro ?_ ?_; ((try dsimp only); first | omega | (refine szA rfl ?_; omega) | (refine szB rfl ?_; omega) | (unfold inI64; omega) | exact rfl | (simp only [lns] at *; omega) | decide | (unfold inI64; decide)); conv => whnf) | decide | assumption)
 · exact ⟨i + 1, by omega, by omega, Entails.mk' [(3, 3)] rfl rfl ⟨lr, lr, lr, lr, trivial⟩ ⟨rr, trivial⟩⟩
 · have : i = l.length := by omega
   subst this
   refine .ret _ ?_
   conv => whnf
   refine ⟨_, ⟨rfl, rfl⟩, Res.le_map (fun key hk => ?_), trivial⟩
   obtain ⟨a, b, rfl⟩ := wk_two hk
   exact ⟨net_has a b, net_val hl a b⟩
theorem roadC_bd {l : List Roa} (h : rdsE l = 0) (a b : List UInt8) : 0 ≤ ((roadO l a b).getD rd0).car ∧ ((roadO l a b).getD rd0).car ≤ 1000000 := by
 cases q : roadO l a b with
 | none => simp [rd0]
 | some n => exact (roadO_bd h q).1
theorem z113 (l : List Roa) (hl : l.length ≤ 2^40) (a b : List UInt8) : FSpec Tryz.prog 51 [.d (roas l), .d (.str a), .d (.str b)] [] (fun y r => y = .tup [.agg ((rdF ((roadO l a b).getD rd0)).map .d), .d (.bool (roadO l a b).isSome)] ∧ r = []) := by
 refine spec_of hT (C := []) Tryz.func51 rfl Tryz.call51 rfl rfl rfl ?_
 conv => whnf
 refine LoopX.rule hT (C := []) (ι := Nat) (fun i => i ≤ l.length ∧ ∀ j, j < i → onRd l a b j = false) (fun i => mkSt [(1, .d (.str a)), (2, .d (.str b)), (6, .ptr 6 0), (10, .d (roas l)), (11, .d (.int .i64 l.length)), (12, .d (.int .i64 i))] [(6, .cells 64 ((rdF rd0).map .d))]) (fun i => l.length - i) 0 ⟨by omega, by omega⟩ (by (refine Entails.mk' [(6, 6)] rfl rfl ?_ ?_ <;> repeat' (first | exact True.intro | exact lr | exact rr | exact SV.le_int (by omega) | exact SV.le_any _ | refine And.intro ?_ ?_)); done) ?_
 rintro i ⟨p1, p2⟩
 have e1 : (i : Int).toNat = i := Int.toNat_natCast i
 conv => whnf
 repeat' (first | (refine br_intro ?_ ?_ <;> intro hb <;> (try simp only [brs] at hb) <;> conv => whnf) | omega | (refine And.intro ?_ ?_; ((try dsimp only); first | omega | (refine szA rfl ?_; omega) | (refine szB rfl ?_; omega) | (unfold inI64; omega) | exact rfl | (simp only [lns] at *; omega) | decide | (unfold inI64; decide)); conv => whnf) | decide | assumption)
 all_goals first
  | exact ⟨i + 1, ⟨by omega, all_step p2 (by clear p2; unfold onRd; grind)⟩, by omega, (by (refine Entails.mk' [(6, 6)] rfl rfl ?_ ?_ <;> repeat' (first | exact True.intro | exact lr | exact rr | exact SV.le_int (by omega) | exact SV.le_any _ | refine And.intro ?_ ?_)); done)⟩
  | (have h1 : roadX l a b = i := ixF_hit (by omega) p2 (by clear p2; unfold onRd; grind)
     have h2 : roadO l a b = some (l.getD i rd0) := by unfold roadO; rw [if_pos (by omega), h1]; rfl
     refine .ret _ ?_
     (conv => whnf)
     refine ⟨_, ⟨?_, rfl⟩, trivial⟩
     conv => lhs; whnf
     rw [h2]; rfl)
  | (have : i = l.length := by omega
     subst this
     have h1 : roadX l a b = -1 := ixF_none p2
     have h2 : roadO l a b = none := by unfold roadO; rw [if_neg (by omega)]
     refine .ret _ ?_
     (conv => whnf)
     refine ⟨_, ⟨?_, rfl⟩, trivial⟩
     conv => lhs; whnf
     rw [h2]; rfl)
end Go.Proofs.YteehenjdddlnnaaGreatDoor
namespace Go.Proofs
open Go.Shelf
def Tryz.lays106_ren : Go.Shelf.Ren := ⟨fun | 106 => 38 | 213 => 72 | 265 => 109 | n => n, fun | 9 => 9 | 3 => 3 | n => n, fun | n => n⟩
theorem Tryz.lays106 : Go.Proofs.Lays.n106 Tryz.prog Tryz.lays106_ren := {
 mixed := by kernel_rfl
 f106 := Tryz.func38.trans (congrArg some (by kernel_rfl))
 f213 := Tryz.func72.trans (congrArg some (by kernel_rfl))
 f265 := Tryz.func109.trans (congrArg some (by kernel_rfl))
 t3 := Tryz.underlying3
 a3 := Tryz.isAgg3
 z3 := Tryz.sizeOf3
 v3 := Tryz.zeroValue3
 t9 := Tryz.underlying9
 a9 := Tryz.isAgg9
 z9 := Tryz.sizeOf9
 v9 := Tryz.zeroValue9 }
end Go.Proofs
set_option maxRecDepth 20000
namespace Go.Proofs.YteehenjdddlnnaaGreatDoor
open Go Go.Eng Go.RowKit
theorem cmpB_S : ∀ (a b : List UInt8), Lib.compareBytes a b = cmpS a b := by
 intro a
 induction a with
 | nil => intro b; cases b <;> simp [Lib.compareBytes, cmpS, Op.bytesLess]
 | cons x a ih =>
   intro b
   cases b with
   | nil => simp [Lib.compareBytes, cmpS, Op.bytesLess]
   | cons y b =>
     have := ih b
     unfold cmpS at this ⊢
     simp only [Lib.compareBytes, Op.bytesLess]
     grind
theorem s190 (a b : List UInt8) : FSpec Tryz.prog 38 [.d (.str a), .d (.str b)] [] (fun x r => x = .d (.int .i64 (cmpS a b)) ∧ r = []) := by
 refine FSpec.ofBelow Tryz.call38 (fun G β w vs _ hl hd => ?_)
 match vs, hl with
 | [u, v], _ =>
   have hu := hd 0 _ _ rfl rfl
   have hv := hd 1 _ _ rfl rfl
   cases hu with | d _ _ hu => cases hu with | str _ =>
   cases hv with | d _ _ hv => cases hv with | str _ =>
   refine ⟨.int .i64 (Lib.compareBytes a b), fun G β => ?_, (Go.Proofs.Any.strings_Compare Go.Proofs.Tryz.lays106 ⟨a.toArray⟩ ⟨b.toArray⟩ w).mono ?_⟩
   · rw [← cmpB_S]; exact .d _ _ (.int _ _)
   · rintro e w' ⟨he, rfl⟩
     exact ⟨he, Below.refl _ _⟩
def oVMvA54_10 : List (Nat × List Nat) := [(0, []), (1, []), (2, []), (3, []), (4, [3]), (5, [3]), (6, []), (7, []), (8, []), (9, [3, 4, 5, 6, 7, 8]), (10, [3, 4, 5, 6, 7, 8, 9]), (11, [3, 4, 5, 6, 7, 8, 9]), (12, [3, 4, 5, 6, 7, 8]), (13, [3, 4, 5, 6, 7, 8]), (14, [3, 4, 5, 6, 7, 8]), (15, [3, 4, 5, 6, 7, 8, 9, 10, 11, 12, 13, 14]), (16, [3, 4, 5, 6, 7, 8, 9, 10, 11, 12, 13, 14]), (17, [3, 4, 5, 6, 7, 8, 9, 10, 11, 12, 13, 14, 15, 16]), (18, [3, 4, 5, 6, 7, 8, 9, 10, 11, 12, 13, 14, 15, 16]), (19, []), (20, []), (21, []), (22, [])]
def oVMvA15_10 : List (Nat × List Nat) := [(0, []), (1, []), (2, []), (3, []), (4, [3]), (5, [3]), (6, []), (7, []), (8, []), (9, [3, 4, 5, 6, 7, 8]), (10, [3, 4, 5, 6, 7, 8, 9]), (11, [3, 4, 5, 6, 7, 8, 9]), (12, [3, 4, 5, 6, 7, 8]), (13, [3, 4, 5, 6, 7, 8]), (14, [3, 4, 5, 6, 7, 8]), (15, [3, 4, 5, 6, 7, 8, 9, 10, 11, 12, 13, 14]), (16, [3, 4, 5, 6, 7, 8, 9, 10, 11, 12, 13, 14]), (17, [3, 4, 5, 6, 7, 8, 9, 10, 11, 12, 13, 14, 15, 16]), (18, [3, 4, 5, 6, 7, 8, 9, 10, 11, 12, 13, 14, 15, 16]), (19, []), (20, []), (21, []), (22, [])]
def oVMvA11_10 : List (Nat × List Nat) := [(0, []), (1, []), (2, []), (3, []), (4, [3]), (5, [3]), (6, []), (7, []), (8, []), (9, [3, 4, 5, 6, 7, 8]), (10, [3, 4, 5, 6, 7, 8, 9]), (11, [3, 4, 5, 6, 7, 8, 9]), (12, [3, 4, 5, 6, 7, 8]), (13, [3, 4, 5, 6, 7, 8]), (14, [3, 4, 5, 6, 7, 8]), (15, [3, 4, 5, 6, 7, 8, 9, 10, 11, 12, 13, 14]), (16, [3, 4, 5, 6, 7, 8, 9, 10, 11, 12, 13, 14]), (17, [3, 4, 5, 6, 7, 8, 9, 10, 11, 12, 13, 14, 15, 16]), (18, [3, 4, 5, 6, 7, 8, 9, 10, 11, 12, 13, 14, 15, 16]), (19, []), (20, []), (21, []), (22, [])]
def mvE (l : List Mov) (i : Nat) : Int :=
 let x := l.getD i mv0
 if isKeyB x.a = false ∨ isKeyB x.b = false then 5 else if x.a = x.b then 14 else if 0 < i ∧ 0 ≤ endsC (l.getD (i - 1) mv0).a (l.getD (i - 1) mv0).b x.a x.b then 7 else if ¬ (1 ≤ x.many ∧ x.many ≤ 20) then 1 else 0
def mvsE (l : List Mov) : Int := if 2500 < l.length then 2 else firstAt (mvE l) l.length
def mvK (x : Mov) : Prop := x.a.length ≤ 2^40 ∧ x.b.length ≤ 2^40
def mvOk (l : List Mov) : Prop := l.length ≤ 2^40 ∧ ∀ x ∈ l, mvK x
theorem mvs_all {l : List Mov} (h : mvsE l = 0) : l.length ≤ 2500 ∧ ∀ i, i < l.length → mvE l i = 0 := by
 unfold mvsE at h
 split at h
 · cases h
 · exact ⟨by omega, firstAt_all h⟩
theorem mov_bd {l : List Mov} (h : mvsE l = 0) {i : Nat} (hi : i < l.length) : 1 ≤ (l.getD i mv0).many ∧ (l.getD i mv0).many ≤ 20 := by
 have := (mvs_all h).2 i hi
 unfold mvE at this
 simp only at this
 grind
theorem z116 (l : List Mov) (hk : mvOk l) : FSpec Tryz.prog 54 [.d (movs l)] [] (fun x r => x = .d (.int .i64 (mvsE l)) ∧ r = []) := by
 refine spec_of hT (C := []) Tryz.func54 rfl Tryz.call54 rfl rfl rfl ?_
 conv => whnf
 refine br_intro (fun h0 => ?_) (fun h0 => ?_)
 · simp at h0
   conv => whnf
   refine .ret _ ?_
   conv => whnf
   refine ⟨[], ⟨?_, rfl⟩, trivial⟩
   conv => lhs; whnf
   unfold mvsE; rw [if_pos (by omega)]
 simp at h0
 conv => whnf
 refine LoopX.rule hT (C := []) (ι := Nat) (fun i => i ≤ l.length ∧ ∀ j, j < i → mvE l j = 0) (fun i => mkSt [(0, .d (movs l)), (8, .d (movs l)), (9, .d (.int .i64 l.length)), (10, .d (.int .i64 i))] []) (fun i => l.length - i) 0 ⟨by omega, by omega⟩ (by (refine Entails.mk' [] rfl rfl ?_ ?_ <;> repeat' (first | exact True.intro | exact lr | exact rr | exact SV.le_int (by omega) | exact SV.le_any _ | refine And.intro ?_ ?_)); done) ?_
 rintro i ⟨p1, p2⟩
 have hx : (i : Int) < l.length → mvK (l.getD (i : Int).toNat mv0) := fun hi => hk.2 _ (getD_mem (by omega))
 have e1 : (i : Int).toNat = i := Int.toNat_natCast i
 have hbad : ∀ e : Int, i < l.length → e ≠ 0 → mvE l i = e → mvsE l = e := fun e h h1 h2 => by
  unfold mvsE; rw [if_neg (by omega)]
  exact firstAt_eq h p2 h1 h2
 conv => whnf
 repeat' (first | (refine CallX.exact (s108 _ (hx (by omega)).1) rfl rfl ?_; rotate_right; conv => whnf) | (refine CallX.exact (s108 _ (hx (by omega)).2) rfl rfl ?_; rotate_right; conv => whnf) | (refine CallX.exact (s204 _ _ _ _) rfl rfl ?_; rotate_right; conv => whnf) | (refine CallX.exact (s119 _ _ _) rfl rfl ?_; rotate_right; conv => whnf) | (refine br_intro ?_ ?_ <;> intro hb <;> (try simp only [brs] at hb) <;> conv => whnf) | (refine RegX.rule (id := 10) hT rfl [] oVMvA54_10 (by decide +kernel) ?_; conv => whnf) | omega | (refine And.intro ?_ ?_; ((try dsimp only); first | omega | (refine szA rfl ?_; omega) | (refine szB rfl ?_; omega) | (unfold inI64; omega) | exact rfl | (simp only [lns] at *; omega) | decide | (unfold inI64; decide)); conv => whnf) | decide | assumption)
 all_goals first
  | (refine ⟨i + 1, ⟨by omega, first_step p2 (by clear p2 hbad hk hx; simp only [e1, toNat_pred] at *; unfold mvE ; grind)⟩, by omega, (by (refine Entails.mk' [] rfl rfl ?_ ?_ <;> repeat' (first | exact True.intro | exact lr | exact rr | exact SV.le_int (by omega) | exact SV.le_any _ | refine And.intro ?_ ?_)); done)⟩)
  | (refine .ret _ ?_
     conv => whnf
     refine ⟨[], ⟨?_, rfl⟩, trivial⟩
     conv => lhs; whnf
     congr 2
     first
      | exact (hbad _ (by omega) (by decide) (by clear p2 hbad hk hx; simp only [e1, toNat_pred] at *; unfold mvE ; grind)).symm
      | (have : i = l.length := by omega
         subst this
         unfold mvsE; rw [if_neg (by omega), firstAt_zero p2]))
def cmpSL : List (List UInt8) → List (List UInt8) → Int
 | [], [] => 0
 | [], _ :: _ => -1
 | _ :: _, [] => 1
 | x :: xs, y :: ys => if cmpS x y ≠ 0 then cmpS x y else cmpSL xs ys
theorem z204 (l m : List (List UInt8)) (hl : l.length ≤ 2^40) (hm : m.length ≤ 2^40) : FSpec Tryz.prog 76 [.d (strs l), .d (strs m)] [] (fun x r => x = .d (.int .i64 (cmpSL l m)) ∧ r = []) := by
 refine spec_of hT (C := []) Tryz.func76 rfl Tryz.call76 rfl rfl rfl ?_
 conv => whnf
 refine LoopX.rule hT (C := []) (ι := Nat) (fun i => i ≤ l.length ∧ i ≤ m.length ∧ cmpSL l m = cmpSL (l.drop i) (m.drop i)) (fun i => mkSt [(0, .d (strs l)), (1, .d (strs m)), (9, .d (strs l)), (10, .d (.int .i64 l.length)), (11, .d (.int .i64 i))] []) (fun i => l.length - i) 0 ⟨by omega, by omega, by simp⟩ (by (refine Entails.mk' [] rfl rfl ?_ ?_ <;> repeat' (first | exact True.intro | exact lr | exact rr | exact SV.le_int (by omega) | exact SV.le_any _ | refine And.intro ?_ ?_)); done) ?_
 rintro i ⟨p1, p2, p3⟩
 have hd : i < l.length → l.drop i = l.getD i [] :: l.drop (i + 1) := fun hi => by rw [List.drop_eq_getElem_cons hi, List.getD_eq_getElem?_getD, List.getElem?_eq_getElem hi]; rfl
 have hd2 : i < m.length → m.drop i = m.getD i [] :: m.drop (i + 1) := fun hi => by rw [List.drop_eq_getElem_cons hi, List.getD_eq_getElem?_getD, List.getElem?_eq_getElem hi]; rfl
 have e1 : (i : Int).toNat = i := Int.toNat_natCast i
 conv => whnf
 repeat' (first | (refine CallX.exact (s184 _ _) rfl rfl ?_; rotate_right; conv => whnf) | (refine br_intro ?_ ?_ <;> intro hb <;> (try simp only [brs] at hb) <;> conv => whnf) | omega | (refine And.intro ?_ ?_; ((try dsimp only); first | omega | (refine szA rfl ?_; omega) | (refine szB rfl ?_; omega) | (unfold inI64; omega) | exact rfl | (simp only [lns] at *; omega) | decide | (unfold inI64; decide)); conv => whnf) | decide | assumption)
 · refine .ret _ ?_
   conv => whnf
   refine ⟨[], ⟨?_, rfl⟩, trivial⟩
   conv => lhs; whnf
   congr 2
   rw [p3, hd (by omega), List.drop_eq_nil_iff.2 (by omega : m.length ≤ i)]; rfl
 · refine .ret _ ?_
   conv => whnf
   refine ⟨[], ⟨?_, rfl⟩, trivial⟩
   conv => lhs; whnf
   congr 2
   rw [p3, hd (by omega), hd2 (by omega), cmpSL, if_pos (by simpa using hb)]; simp only [e1]
 · refine ⟨i + 1, ⟨by omega, by omega, ?_⟩, by omega, (by (refine Entails.mk' [] rfl rfl ?_ ?_ <;> repeat' (first | exact True.intro | exact lr | exact rr | exact SV.le_int (by omega) | exact SV.le_any _ | refine And.intro ?_ ?_)); done)⟩
   rw [p3, hd (by omega), hd2 (by omega), cmpSL, if_neg (by simpa using hb)]
 · refine .ret _ ?_
   conv => whnf
   refine ⟨[], ⟨?_, rfl⟩, trivial⟩
   conv => lhs; whnf
   congr 2
   have hm : i < m.length := by omega
   rw [p3, hd2 hm, List.drop_eq_nil_iff.2 (by omega : l.length ≤ i)]; rfl
 · refine .ret _ ?_
   conv => whnf
   refine ⟨[], ⟨?_, rfl⟩, trivial⟩
   conv => lhs; whnf
   congr 2
   rw [p3, List.drop_eq_nil_iff.2 (by omega : m.length ≤ i), List.drop_eq_nil_iff.2 (by omega : l.length ≤ i)]; rfl
theorem z108 (a b c d : List UInt8) : FSpec Tryz.prog 46 [.d (.str a), .d (.str b), .d (.str c), .d (.str d)] [] (fun x r => x = .d (.int .i64 (endsC a b c d)) ∧ r = []) := by
 have h := z204 [a, b] [c, d] (by simp) (by simp)
 rw [show cmpSL [a, b] [c, d] = endsC a b c d from by unfold endsC; simp only [cmpSL, firstE]; by_cases h1 : cmpS a c = 0 <;> by_cases h2 : cmpS b d = 0 <;> simp [h1, h2]] at h
 refine spec_of hT (C := []) Tryz.func46 rfl Tryz.call46 rfl rfl rfl ?_
 conv => whnf
 repeat' (first | (refine CallX.pure h ⟨SV.le_lit (by rfl) (by rfl), SV.le_lit (by rfl) (by rfl), trivial⟩ rfl ?_; conv => whnf) | (refine br_intro ?_ ?_ <;> intro hb <;> (try simp only [brs] at hb) <;> conv => whnf) | omega | (refine And.intro ?_ ?_; ((try dsimp only); first | omega | (refine szA rfl ?_; omega) | (refine szB rfl ?_; omega) | (unfold inI64; omega) | exact rfl | (simp only [lns] at *; omega) | decide | (unfold inI64; decide)); conv => whnf) | decide | assumption)
 refine .ret _ ?_
 conv => whnf
 refine ⟨[], ⟨?_, rfl⟩, trivial⟩
 conv => lhs; whnf
theorem z25 (l : List Mov) (hk : mvOk l) : FSpec Tryz.prog 15 [.d (movs l)] [] (fun x r => x = .d (.int .i64 (mvsE l)) ∧ r = []) := by
 refine spec_of hT (C := []) Tryz.func15 rfl Tryz.call15 rfl rfl rfl ?_
 conv => whnf
 refine br_intro (fun h0 => ?_) (fun h0 => ?_)
 · simp at h0
   conv => whnf
   refine .ret _ ?_
   conv => whnf
   refine ⟨[], ⟨?_, rfl⟩, trivial⟩
   conv => lhs; whnf
   unfold mvsE; rw [if_pos (by omega)]
 simp at h0
 conv => whnf
 refine LoopX.rule hT (C := []) (ι := Nat) (fun i => i ≤ l.length ∧ ∀ j, j < i → mvE l j = 0) (fun i => mkSt [(0, .d (movs l)), (8, .d (movs l)), (9, .d (.int .i64 l.length)), (10, .d (.int .i64 i))] []) (fun i => l.length - i) 0 ⟨by omega, by omega⟩ (by (refine Entails.mk' [] rfl rfl ?_ ?_ <;> repeat' (first | exact True.intro | exact lr | exact rr | exact SV.le_int (by omega) | exact SV.le_any _ | refine And.intro ?_ ?_)); done) ?_
 rintro i ⟨p1, p2⟩
 have hx : (i : Int) < l.length → mvK (l.getD (i : Int).toNat mv0) := fun hi => hk.2 _ (getD_mem (by omega))
 have e1 : (i : Int).toNat = i := Int.toNat_natCast i
 have hbad : ∀ e : Int, i < l.length → e ≠ 0 → mvE l i = e → mvsE l = e := fun e h h1 h2 => by
  unfold mvsE; rw [if_neg (by omega)]
  exact firstAt_eq h p2 h1 h2
 conv => whnf
 repeat' (first | (refine CallX.exact (s21 _ (hx (by omega)).1) rfl rfl ?_; rotate_right; conv => whnf) | (refine CallX.exact (s21 _ (hx (by omega)).2) rfl rfl ?_; rotate_right; conv => whnf) | (refine CallX.exact (z108 _ _ _ _) rfl rfl ?_; rotate_right; conv => whnf) | (refine CallX.exact (s109 _ _ _) rfl rfl ?_; rotate_right; conv => whnf) | (refine br_intro ?_ ?_ <;> intro hb <;> (try simp only [brs] at hb) <;> conv => whnf) | (refine RegX.rule (id := 10) hT rfl [] oVMvA15_10 (by decide +kernel) ?_; conv => whnf) | omega | (refine And.intro ?_ ?_; ((try dsimp only); first | omega | (refine szA rfl ?_; omega) | (refine szB rfl ?_; omega) | (unfold inI64; omega) | exact rfl | (simp only [lns] at *; omega) | decide | (unfold inI64; decide)); conv => whnf) | decide | assumption)
 all_goals first
  | (refine ⟨i + 1, ⟨by omega, first_step p2 (by clear p2 hbad hk hx; simp only [e1, toNat_pred] at *; unfold mvE ; grind)⟩, by omega, (by (refine Entails.mk' [] rfl rfl ?_ ?_ <;> repeat' (first | exact True.intro | exact lr | exact rr | exact SV.le_int (by omega) | exact SV.le_any _ | refine And.intro ?_ ?_)); done)⟩)
  | (refine .ret _ ?_
     conv => whnf
     refine ⟨[], ⟨?_, rfl⟩, trivial⟩
     conv => lhs; whnf
     congr 2
     first
      | exact (hbad _ (by omega) (by decide) (by clear p2 hbad hk hx; simp only [e1, toNat_pred] at *; unfold mvE ; grind)).symm
      | (have : i = l.length := by omega
         subst this
         unfold mvsE; rw [if_neg (by omega), firstAt_zero p2]))
theorem z21 (l : List Roa) (hk : rdOk l) : FSpec Tryz.prog 11 [.d (roas l)] [] (fun x r => x = .d (.int .i64 (rdsE l)) ∧ r = []) := by
 refine spec_of hT (C := []) Tryz.func11 rfl Tryz.call11 rfl rfl rfl ?_
 conv => whnf
 refine br_intro (fun h0 => ?_) (fun h0 => ?_)
 · simp at h0
   conv => whnf
   refine .ret _ ?_
   conv => whnf
   refine ⟨[], ⟨?_, rfl⟩, trivial⟩
   conv => lhs; whnf
   unfold rdsE; rw [if_pos (by omega)]
 simp at h0
 conv => whnf
 refine LoopX.rule hT (C := []) (ι := Nat) (fun i => i ≤ l.length ∧ ∀ j, j < i → rdE l j = 0) (fun i => mkSt [(0, .d (roas l)), (8, .d (roas l)), (9, .d (.int .i64 l.length)), (10, .d (.int .i64 i))] []) (fun i => l.length - i) 0 ⟨by omega, by omega⟩ (by (refine Entails.mk' [] rfl rfl ?_ ?_ <;> repeat' (first | exact True.intro | exact lr | exact rr | exact SV.le_int (by omega) | exact SV.le_any _ | refine And.intro ?_ ?_)); done) ?_
 rintro i ⟨p1, p2⟩
 have hx : (i : Int) < l.length → rdK (l.getD (i : Int).toNat rd0) := fun hi => hk.2 _ (getD_mem (by omega))
 have e1 : (i : Int).toNat = i := Int.toNat_natCast i
 have hbad : ∀ e : Int, i < l.length → e ≠ 0 → rdE l i = e → rdsE l = e := fun e h h1 h2 => by
  unfold rdsE; rw [if_neg (by omega)]
  exact firstAt_eq h p2 h1 h2
 conv => whnf
 repeat' (first | (refine CallX.exact (s21 _ (hx (by omega)).1) rfl rfl ?_; rotate_right; conv => whnf) | (refine CallX.exact (s21 _ (hx (by omega)).2) rfl rfl ?_; rotate_right; conv => whnf) | (refine CallX.exact (z108 _ _ _ _) rfl rfl ?_; rotate_right; conv => whnf) | (refine CallX.exact (s109 _ _ _) rfl rfl ?_; rotate_right; conv => whnf) | (refine br_intro ?_ ?_ <;> intro hb <;> (try simp only [brs] at hb) <;> conv => whnf) | (refine RegX.rule (id := 10) hT rfl [] oVMvA11_10 (by decide +kernel) ?_; conv => whnf) | omega | (refine And.intro ?_ ?_; ((try dsimp only); first | omega | (refine szA rfl ?_; omega) | (refine szB rfl ?_; omega) | (unfold inI64; omega) | exact rfl | (simp only [lns] at *; omega) | decide | (unfold inI64; decide)); conv => whnf) | decide | assumption)
 all_goals first
  | (refine ⟨i + 1, ⟨by omega, first_step p2 (by clear p2 hbad hk hx; simp only [e1, toNat_pred] at *; unfold rdE ; grind)⟩, by omega, (by (refine Entails.mk' [] rfl rfl ?_ ?_ <;> repeat' (first | exact True.intro | exact lr | exact rr | exact SV.le_int (by omega) | exact SV.le_any _ | refine And.intro ?_ ?_)); done)⟩)
  | (refine .ret _ ?_
     conv => whnf
     refine ⟨[], ⟨?_, rfl⟩, trivial⟩
     conv => lhs; whnf
     congr 2
     first
      | exact (hbad _ (by omega) (by decide) (by clear p2 hbad hk hx; simp only [e1, toNat_pred] at *; unfold rdE ; grind)).symm
      | (have : i = l.length := by omega
         subst this
         unfold rdsE; rw [if_neg (by omega), firstAt_zero p2]))
theorem z20 (l : List Ned) (hk : ndOk l) : FSpec Tryz.prog 10 [.d (neds l)] [] (fun x r => x = .d (.int .i64 (ndsE l)) ∧ r = []) := by
 refine spec_of hT (C := []) Tryz.func10 rfl Tryz.call10 rfl rfl rfl ?_
 conv => whnf
 refine br_intro (fun h0 => ?_) (fun h0 => ?_)
 · simp at h0
   conv => whnf
   refine .ret _ ?_
   conv => whnf
   refine ⟨[], ⟨?_, rfl⟩, trivial⟩
   conv => lhs; whnf
   unfold ndsE; rw [if_pos (by omega)]
 simp at h0
 conv => whnf
 refine LoopX.rule hT (C := []) (ι := Nat) (fun i => i ≤ l.length ∧ ∀ j, j < i → ndE l j = 0) (fun i => mkSt [(3, .d (.str (if i = 0 then [] else (l.getD (i - 1) nd0).st))), (9, .d (neds l)), (10, .d (.int .i64 l.length)), (11, .d (.int .i64 i))] []) (fun i => l.length - i) 0 ⟨by omega, by omega⟩ (by (refine Entails.mk' [] rfl rfl ?_ ?_ <;> repeat' (first | exact True.intro | exact lr | exact rr | exact SV.le_int (by omega) | exact SV.le_any _ | refine And.intro ?_ ?_)); done) ?_
 rintro i ⟨p1, p2⟩
 have hx : (i : Int) < l.length → ndK (l.getD (i : Int).toNat nd0) := fun hi => hk.2 _ (getD_mem (by omega))
 have e1 : (i : Int).toNat = i := Int.toNat_natCast i
 have hbad : ∀ e : Int, i < l.length → e ≠ 0 → ndE l i = e → ndsE l = e := fun e h h1 h2 => by
  unfold ndsE; rw [if_neg (by omega)]
  exact firstAt_eq h p2 h1 h2
 conv => whnf
 repeat' (first | (refine CallX.exact (s21 _ (hx (by omega))) rfl rfl ?_; rotate_right; conv => whnf) | (refine CallX.exact (s109 _ _ _) rfl rfl ?_; rotate_right; conv => whnf) | (refine br_intro ?_ ?_ <;> intro hb <;> (try simp only [brs] at hb) <;> conv => whnf) | omega | (refine And.intro ?_ ?_; ((try dsimp only); first | omega | (refine szA rfl ?_; omega) | (refine szB rfl ?_; omega) | (unfold inI64; omega) | exact rfl | (simp only [lns] at *; omega) | decide | (unfold inI64; decide)); conv => whnf) | decide | assumption)
 all_goals first
  | (refine ⟨i + 1, ⟨by omega, first_step p2 (by clear p2 hbad hk hx; simp only [e1] at *; unfold ndE strLe; grind)⟩, by omega, Entails.mk' [] rfl rfl ⟨(by rw [show (if i + 1 = 0 then ([] : List UInt8) else (l.getD (i + 1 - 1) nd0).st) = (l.getD (i : Int).toNat nd0).st from by rw [if_neg (by omega), e1, Nat.add_sub_cancel]]; exact lr), lr, lr, lr, trivial⟩ trivial⟩)
  | (refine .ret _ ?_
     conv => whnf
     refine ⟨[], ⟨?_, rfl⟩, trivial⟩
     conv => lhs; whnf
     congr 2
     first
      | exact (hbad _ (by omega) (by decide) (by clear p2 hbad hk hx; simp only [e1] at *; unfold ndE strLe; grind [isKey_nil, less_nil])).symm
      | (have : i = l.length := by omega
         subst this
         unfold ndsE; rw [if_neg (by omega), firstAt_zero p2]))
def nedX (l : List Ned) (s : List UInt8) : Int := ixF (fun i => (l.getD i nd0).st == s) l.length
def manyN (l : List Ned) (s : List UInt8) : Int := if 0 ≤ nedX l s then (l.getD (nedX l s).toNat nd0).many else 0
theorem nds_all {l : List Ned} (h : ndsE l = 0) : l.length ≤ 10 ∧ ∀ i, i < l.length → ndE l i = 0 := by
 unfold ndsE at h
 split at h
 · cases h
 · exact ⟨by omega, firstAt_all h⟩
theorem nds_inc {l : List Ned} (h : ndsE l = 0) : ∀ {j i : Nat}, i < j → j < l.length → Op.bytesLess (l.getD i nd0).st (l.getD j nd0).st = true := by
 obtain ⟨_, h2⟩ := nds_all h
 have step : ∀ j, j + 1 < l.length → Op.bytesLess (l.getD j nd0).st (l.getD (j + 1) nd0).st = true := fun j hj => by
  have := h2 (j + 1) hj
  unfold ndE at this
  simp only [Nat.add_sub_cancel] at this
  have h3 : ¬ strLe (l.getD (j + 1) nd0).st (l.getD j nd0).st = true := by grind
  by_cases q : Op.bytesLess (l.getD j nd0).st (l.getD (j + 1) nd0).st = true
  · exact q
  · exfalso
    apply h3
    unfold strLe
    have q2 : Op.bytesLess (l.getD j nd0).st (l.getD (j + 1) nd0).st = false := by simpa using q
    by_cases e : (l.getD (j + 1) nd0).st = (l.getD j nd0).st
    · rw [e]; simp
    · rw [less_tri _ _ q2 (fun h => e h.symm)]; rfl
 intro j
 induction j with
 | zero => intro i h; omega
 | succ j ih =>
   intro i hi hj
   by_cases q : i = j
   · subst q; exact step i hj
   · exact less_trans (ih (by omega) (by omega)) (step j hj)
theorem ned_inj {l : List Ned} (h : ndsE l = 0) {i j : Nat} (hi : i < l.length) (hj : j < l.length) (he : (l.getD i nd0).st = (l.getD j nd0).st) : i = j := by
 rcases Nat.lt_trichotomy i j with q | q | q
 · have := nds_inc h q hj; rw [he, less_irr] at this; cases this
 · exact q
 · have := nds_inc h q hi; rw [he, less_irr] at this; cases this
theorem manyN_eq {l : List Ned} (h : ndsE l = 0) {i : Nat} (hi : i < l.length) : manyN l (l.getD i nd0).st = (l.getD i nd0).many := by
 have hb := ixF_bd (p := fun j => (l.getD j nd0).st == (l.getD i nd0).st) (n := l.length)
 have h0 : 0 ≤ nedX l (l.getD i nd0).st := ixF_pos (p := fun j => (l.getD j nd0).st == (l.getD i nd0).st) hi (by simp)
 have h1 := hb.2.2 h0
 have h2 : (l.getD (nedX l (l.getD i nd0).st).toNat nd0).st = (l.getD i nd0).st := eq_of_beq h1
 have hlt : nedX l (l.getD i nd0).st < l.length := hb.2.1
 have := ned_inj h (by omega) hi h2
 unfold manyN
 rw [if_pos h0, this]
theorem ned_bd {l : List Ned} (h : ndsE l = 0) {i : Nat} (hi : i < l.length) : -20 ≤ (l.getD i nd0).many ∧ (l.getD i nd0).many ≤ 20 := by
 have := (nds_all h).2 i hi
 unfold ndE at this
 simp only at this
 grind
def onPlan (n : List Ned) (r : List Roa) (l : List Mov) (i : Nat) : Int :=
 let x := l.getD i mv0
 if manyN n x.a ≤ 0 ∨ 0 ≤ manyN n x.b then 16 else if (roadO r x.a x.b).isSome = false then 8 else 0
def mvdN (l : List Mov) (s : List UInt8) : Nat → Int
 | 0 => 0
 | k + 1 => mvdN l s k + (if (l.getD k mv0).a = s then (l.getD k mv0).many else 0) - (if (l.getD k mv0).b = s then (l.getD k mv0).many else 0)
def awayN (l : List Mov) (s : List UInt8) : Nat → Int
 | 0 => 0
 | k + 1 => awayN l s k + (if (l.getD k mv0).a = s then (l.getD k mv0).many else 0)
def hereN (l : List Mov) (s : List UInt8) : Nat → Int
 | 0 => 0
 | k + 1 => hereN l s k + (if (l.getD k mv0).b = s then (l.getD k mv0).many else 0)
theorem mvdN_eq (l : List Mov) (s : List UInt8) : ∀ k, mvdN l s k = awayN l s k - hereN l s k := by
 intro k
 induction k with
 | zero => rfl
 | succ k ih => rw [mvdN, awayN, hereN, ih]; omega
theorem awayN_bd {l : List Mov} (h : mvsE l = 0) (s : List UInt8) : ∀ k, k ≤ l.length → 0 ≤ awayN l s k ∧ awayN l s k ≤ 20 * k := by
 intro k
 induction k with
 | zero => intro _; simp [awayN]
 | succ k ih =>
   intro hk
   have := ih (by omega)
   have := mov_bd h (i := k) (by omega)
   rw [awayN]; split <;> omega
theorem hereN_bd {l : List Mov} (h : mvsE l = 0) (s : List UInt8) : ∀ k, k ≤ l.length → 0 ≤ hereN l s k ∧ hereN l s k ≤ 20 * k := by
 intro k
 induction k with
 | zero => intro _; simp [hereN]
 | succ k ih =>
   intro hk
   have := ih (by omega)
   have := mov_bd h (i := k) (by omega)
   rw [hereN]; split <;> omega
theorem awayN_zero {l : List Mov} {s : List UInt8} : ∀ k, (∀ i, i < k → (l.getD i mv0).a ≠ s) → awayN l s k = 0 := by
 intro k
 induction k with
 | zero => intro _; rfl
 | succ k ih => intro h; rw [awayN, ih (fun i hi => h i (by omega)), if_neg (h k (by omega))]; rfl
theorem hereN_zero {l : List Mov} {s : List UInt8} : ∀ k, (∀ i, i < k → (l.getD i mv0).b ≠ s) → hereN l s k = 0 := by
 intro k
 induction k with
 | zero => intro _; rfl
 | succ k ih => intro h; rw [hereN, ih (fun i hi => h i (by omega)), if_neg (h k (by omega))]; rfl
def sumE (n : List Ned) (l : List Mov) (i : Nat) : Int :=
 let x := n.getD i nd0
 if (0 < x.many ∧ x.many < mvdN l x.st l.length) ∨ (x.many < 0 ∧ mvdN l x.st l.length ≠ x.many) then 15 else 0
def sumE2 (n : List Ned) (l : List Mov) (i : Nat) : Int :=
 let x := n.getD i nd0
 if (0 < x.many ∧ x.many < awayN l x.st l.length) ∨ (x.many < 0 ∧ hereN l x.st l.length ≠ -x.many) then 15 else 0
theorem sum_eq {n : List Ned} {r : List Roa} {l : List Mov} (hn : ndsE n = 0) (h : ∀ i, i < l.length → onPlan n r l i = 0) {i : Nat} (hi : i < n.length) : sumE n l i = sumE2 n l i := by
 have hm := manyN_eq hn hi
 have ha : (n.getD i nd0).many < 0 → awayN l (n.getD i nd0).st l.length = 0 := fun q => awayN_zero _ (fun j hj e => by
  have := h j hj
  unfold onPlan at this
  simp only [e, hm] at this
  grind)
 have hh : 0 < (n.getD i nd0).many → hereN l (n.getD i nd0).st l.length = 0 := fun q => hereN_zero _ (fun j hj e => by
  have := h j hj
  unfold onPlan at this
  simp only [e, hm] at this
  grind)
 unfold sumE sumE2
 simp only [mvdN_eq]
 generalize (n.getD i nd0).many = m at ha hh
 generalize awayN l (n.getD i nd0).st l.length = x at ha
 generalize hereN l (n.getD i nd0).st l.length = y at hh
 have : ((0 < m ∧ m < x - y) ∨ (m < 0 ∧ x - y ≠ m)) ↔ ((0 < m ∧ m < x) ∨ (m < 0 ∧ y ≠ -m)) := by
  rcases Int.lt_trichotomy m 0 with q | q | q
  · have := ha q; omega
  · omega
  · have := hh q; omega
 simp only [this]
def planE (n : List Ned) (r : List Roa) (l : List Mov) : Int := if firstAt (onPlan n r l) l.length ≠ 0 then firstAt (onPlan n r l) l.length else firstAt (sumE n l) n.length
theorem firstAt_congr {f g : Nat → Int} {n : Nat} (h : ∀ i, i < n → f i = g i) : firstAt f n = firstAt g n := by
 induction n with
 | zero => rfl
 | succ n ih => rw [firstAt, firstAt, ih (fun i hi => h i (by omega)), h n (by omega)]
theorem planE_eq {n : List Ned} {r : List Roa} {l : List Mov} (hn : ndsE n = 0) : planE n r l = if firstAt (onPlan n r l) l.length ≠ 0 then firstAt (onPlan n r l) l.length else firstAt (sumE2 n l) n.length := by
 unfold planE
 split
 · rfl
 · rename_i h
   exact firstAt_congr (fun i hi => sum_eq (r := r) hn (firstAt_all (f := onPlan n r l) (n := l.length) (by omega)) hi)
def costN (r : List Roa) (l : List Mov) : Nat → Int
 | 0 => 0
 | k + 1 => costN r l k + (l.getD k mv0).many * ((roadO r (l.getD k mv0).a (l.getD k mv0).b).getD rd0).car
def oVPfP59_1 : List (Nat × List Nat) := [(0, []), (1, []), (2, []), (3, [0, 1, 2]), (4, [0, 1, 2]), (5, [0, 1, 2]), (6, []), (7, []), (8, [])]
def oVPfP59_6 : List (Nat × List Nat) := [(0, []), (1, []), (2, []), (3, []), (4, [0, 1, 2, 3]), (5, [0, 1, 2, 3, 4]), (6, [0, 1, 2, 3, 4]), (7, [0, 1, 2, 3, 4]), (8, [0, 1, 2, 3, 4]), (9, [0, 1, 2, 3, 4, 5, 6, 7, 8]), (10, [0, 1, 2, 3, 4, 5, 6, 7, 8, 9]), (11, [0, 1, 2, 3, 4, 5, 6, 7, 8, 9]), (12, [0, 1, 2, 3, 4, 5, 6, 7, 8, 9]), (13, [0, 1, 2, 3, 4, 5, 6, 7, 8, 9, 10, 11, 12]), (14, [0, 1, 2, 3, 4, 5, 6, 7, 8, 9, 10, 11, 12]), (15, [0, 1, 2, 3, 4, 5, 6, 7, 8, 9, 10, 11, 12]), (16, [0, 1, 2, 3, 4, 5, 6, 7, 8, 9, 10, 11, 12]), (17, [9, 13, 14, 15, 16]), (18, [9, 13, 14, 15, 16]), (19, []), (20, [])]
def oVPfP59_12 : List (Nat × List Nat) := [(0, []), (1, [0]), (2, [0]), (3, [0]), (4, [0]), (5, [0, 1, 2, 3, 4]), (6, [0, 1, 2, 3, 4, 5]), (7, [0, 1, 2, 3, 4, 5, 6]), (8, [0, 1, 2, 3, 4, 5, 6]), (9, [0, 1, 2, 3, 4]), (10, [0, 1, 2, 3, 4]), (11, [0]), (12, []), (13, []), (14, [])]
def havF (n : List Ned) (i : Nat) : Int := max (manyP n i) 0
def wntF (n : List Ned) (i : Nat) : Int := max (0 - manyP n i) 0
def havL (n : List Ned) : List Int := fillA 0 (havF n) n.length n.length
def wntL (n : List Ned) : List Int := fillA 0 (wntF n) n.length n.length
def arcO (x : Ar3) : Arc := ⟨x.fr, x.to, x.car, 0⟩
def arcs (n : List Ned) (r : List Roa) : List Arc := (arL n r).map arcO
def arCell (n : List Ned) (r : List Roa) (i k : Nat) : Option Ar3 := if 0 < manyP n i ∧ manyP n k < 0 then (wayO n r i k).map fun c => ⟨i, k, c⟩ else none
def arPre (n : List Ned) (r : List Roa) (i k : Nat) : List Ar3 := (List.range i).flatMap (arRow n r) ++ (List.range k).filterMap (arCell n r i)
theorem arPre_next (n : List Ned) (r : List Roa) (i : Nat) : arPre n r i n.length = arPre n r (i + 1) 0 := by
 unfold arPre
 rw [List.range_succ, List.flatMap_append]
 simp only [List.flatMap_cons, List.flatMap_nil, List.append_nil, List.range_zero, List.filterMap_nil]
 first | done | rfl
theorem arPre_succ (n : List Ned) (r : List Roa) (i k : Nat) : arPre n r i (k + 1) = arPre n r i k ++ (arCell n r i k).toList := by
 unfold arPre
 rw [List.range_succ, List.filterMap_append, ← List.append_assoc]
 congr 1
theorem arPre_all (n : List Ned) (r : List Roa) : arPre n r n.length 0 = arL n r := by
 unfold arPre arL; simp
theorem arPre_len (n : List Ned) (r : List Roa) : ∀ i k, (arPre n r i k).length ≤ n.length * i + k
 | 0, k => by
   unfold arPre
   have := List.length_filterMap_le (arCell n r 0) (List.range k)
   rw [List.length_range] at this
   simpa using this
 | i + 1, k => by
   have h1 := arPre_len n r i n.length
   have h2 : (arPre n r (i + 1) k).length = (arPre n r (i + 1) 0).length + ((List.range k).filterMap (arCell n r (i + 1))).length := by
    unfold arPre; simp
   have h3 := List.length_filterMap_le (arCell n r (i + 1)) (List.range k)
   rw [List.length_range] at h3
   rw [arPre_next] at h1
   have h4 : n.length * (i + 1) = n.length * i + n.length := Nat.mul_succ _ _
   omega
theorem ned_many {n : List Ned} (h : ndsE n = 0) (i : Nat) : -20 ≤ manyP n i ∧ manyP n i ≤ 20 := by
 unfold manyP
 rcases Nat.lt_or_ge i n.length with q | q
 · exact ned_bd h q
 · rw [List.getD_eq_getElem?_getD, List.getElem?_eq_none q]; simp [nd0]
set_option maxHeartbeats 8000000 in
theorem p59 (n : List Ned) (r : List Roa) (hn : ndsE n = 0) (hr : rdsE r = 0) : FSpec Tryz.prog 59 [.d (neds n), .d (roas r)] []
 (fun y q => y = .ptr 20 0 ∧ q = [(20, .cells 106 [.buf 15, .buf 18, .buf 500]), (15, froI (havL n)), (18, froI (wntL n)), (500, arcB (arcs n r))]) := by
 have hl := (nds_all hn).1
 have hrl := (rds_all hr).1
 have hmn := ned_many hn
 refine spec_of hT (C := []) Tryz.func59 rfl Tryz.call59 rfl rfl rfl ?_
 conv => whnf
 refine RegX.rule hT rfl [] oVPfP59_1 (by decide +kernel) ?_
 conv => whnf
 repeat' (first | (refine CallX.of (z117 r hr) [(3, 22)] rfl ⟨lr, trivial⟩ trivial rfl rfl ?_; rintro x rout ⟨rfl, rfl⟩; refine ⟨rfl, ?_⟩; conv => whnf) | (refine br_intro ?_ ?_ <;> intro hb <;> (try simp only [brs] at hb) <;> conv => whnf) | (refine RegX.rule (id := 1) hT rfl [] oVPfP59_1 (by decide +kernel) ?_; conv => whnf) | (refine RegX.rule (id := 6) hT rfl [] oVPfP59_6 (by decide +kernel) ?_; conv => whnf) | (refine RegX.rule (id := 12) hT rfl [] oVPfP59_12 (by decide +kernel) ?_; conv => whnf) | omega | (refine And.intro ?_ ?_; ((try dsimp only); first | omega | (refine szA rfl ?_; omega) | (refine szB rfl ?_; omega) | (unfold inI64; omega) | exact rfl | (simp only [lns] at *; omega) | decide | (unfold inI64; decide)); conv => whnf) | decide | assumption)
 refine LoopX.rule hT (C := []) (ι := Nat) (fun i => i ≤ n.length) (fun i => mkSt [(0, .d (neds n)), (5, .ptr 20 0), (6, .mp 22), (23, .d (neds n)), (24, .d (.int .i64 n.length)), (25, .d (.int .i64 i))] [(20, .cells 106 [.buf 15, .buf 18, .buf 500]), (15, seqB 3 1 iF 0 (fillA 0 (havF n) n.length i)), (18, seqB 3 1 iF 0 (fillA 0 (wntF n) n.length i)), (500, arcB ((arPre n r i 0).map arcO)), (22, netG r)]) (fun i => n.length - i) 0 (by show 0 ≤ _; omega) ?_ ?_
 · refine (Entails.nilCell 20 500 108 4 2 (rowF arF ar0 []) rfl rfl rfl (by decide) rfl).trans ?_
   exact (Entails.mk' [(20, 20), (15, 15), (18, 18), (500, 500), (22, 22)] rfl rfl ⟨lr, lr, lr, lr, lr, lr, trivial⟩ ⟨rr, Res.le_zrow (fun _ => rfl), Res.le_zrow (fun _ => rfl), rr, rr, trivial⟩)
 rintro i hi
 have hi : i ≤ n.length := hi
 have hf1 : (fillA 0 (havF n) n.length i).length = n.length := fillA_length
 have hf2 : (fillA 0 (wntF n) n.length i).length = n.length := fillA_length
 have e1 : (i : Int).toNat = i := Int.toNat_natCast i
 rcases Nat.lt_or_ge i n.length with hin | hin
 · have hmi := hmn i
   unfold manyP at hmi
   rw [← e1] at hmi
   conv => whnf
   repeat' (first | (refine br_intro ?_ ?_ <;> intro hb <;> (try simp only [brs] at hb) <;> conv => whnf) | (refine RegX.rule (id := 1) hT rfl [] oVPfP59_1 (by decide +kernel) ?_; conv => whnf) | (refine RegX.rule (id := 6) hT rfl [] oVPfP59_6 (by decide +kernel) ?_; conv => whnf) | (refine RegX.rule (id := 12) hT rfl [] oVPfP59_12 (by decide +kernel) ?_; conv => whnf) | omega | (refine And.intro ?_ ?_; ((try dsimp only); first | omega | (refine szA rfl ?_; omega) | (refine szB rfl ?_; omega) | (unfold inI64; omega) | exact rfl | (simp only [lns] at *; omega) | decide | (unfold inI64; decide)); conv => whnf) | decide | assumption)
   all_goals try (exfalso; omega)
   refine LoopX.rule hT (C := []) (ι := Nat) (fun k => k ≤ n.length) (fun k => mkSt [(0, .d (neds n)), (5, .ptr 20 0), (6, .mp 22), (7, .d (.int .i64 i)), (8, .ptr 8 0), (23, .d (neds n)), (24, .d (.int .i64 n.length)), (25, .d (.int .i64 i)), (49, .d (neds n)), (50, .d (.int .i64 n.length)), (51, .d (.int .i64 k))] [(20, .cells 106 [.buf 15, .buf 18, .buf 500]), (15, seqB 3 1 iF 0 (fillA 0 (havF n) n.length (i + 1))), (18, seqB 3 1 iF 0 (fillA 0 (wntF n) n.length (i + 1))), (500, arcB ((arPre n r i k).map arcO)), (22, netG r), (8, .cells 58 ((ndF (n.getD (i : Int).toNat nd0)).map .d))]) (fun k => n.length - k) 0 (by show 0 ≤ _; omega) ?_ ?_
   · refine Entails.mk' [(20, 20), (15, 15), (18, 18), (500, 500), (22, 22), (8, 8)] rfl rfl ⟨lr, lr, lr, lr, lr, lr, lr, lr, lr, lr, lr, trivial⟩ ⟨rr, ?_, ?_, rr, rr, rr, trivial⟩
     · rw [← fillA_set' (x := havF n i) rfl, ← e1]
       exact Res.le_upd (fun _ => _) (fun y => rfl)
     · rw [← fillA_set' (x := wntF n i) rfl, ← e1]
       exact Res.le_upd (fun _ => _) (fun y => rfl)
   rintro k hk
   have hk : k ≤ n.length := hk
   have e2 : (k : Int).toNat = k := Int.toNat_natCast k
   have hpl := arPre_len n r i k
   have hpl2 : n.length * i ≤ 10 * 10 := Nat.mul_le_mul hl (by omega)
   have hnl : ((arPre n r i k).map arcO).length = (arPre n r i k).length := List.length_map _
   rcases Nat.lt_or_ge k n.length with hkn | hkn
   · conv => whnf
     repeat' (first | (refine And.intro (rfl : zrow _ = some [.str [], .str [], .int .i64 0, .int .i64 0]) ?_; conv => whnf) | (refine br_intro ?_ ?_ <;> intro hb <;> (try simp only [brs] at hb) <;> conv => whnf) | (refine RegX.rule (id := 1) hT rfl [] oVPfP59_1 (by decide +kernel) ?_; conv => whnf) | (refine RegX.rule (id := 6) hT rfl [] oVPfP59_6 (by decide +kernel) ?_; conv => whnf) | (refine RegX.rule (id := 12) hT rfl [] oVPfP59_12 (by decide +kernel) ?_; conv => whnf) | omega | (refine And.intro ?_ ?_; ((try dsimp only); first | omega | (refine szA rfl ?_; omega) | (refine szB rfl ?_; omega) | (unfold inI64; omega) | exact rfl | (simp only [lns] at *; omega) | decide | (unfold inI64; decide)); conv => whnf) | decide | assumption)
     all_goals try (exfalso; omega)
     · have hc : arCell n r i k = some ⟨i, k, ((roadO r (n.getD i nd0).st (n.getD k nd0).st).getD rd0).car⟩ := by
        unfold arCell wayO
        rw [if_pos ⟨by assumption, hb⟩]
        cases hro : roadO r (n.getD i nd0).st (n.getD k nd0).st with
        | none =>
          rename_i hx _
          have hx : (roadO r (n.getD i nd0).st (n.getD k nd0).st).isSome = true := hx
          rw [hro] at hx; cases hx
        | some x => rfl
       refine ⟨k + 1, by omega, by omega, ?_⟩
       rw [arPre_succ, hc, List.map_append]
       exact Entails.mk' [(20, 20), (15, 15), (18, 18), (500, 88), (22, 22), (8, 8)] rfl rfl ⟨lr, lr, lr, lr, lr, lr, lr, lr, lr, lr, lr, trivial⟩ ⟨rr, rr, rr, Res.le_snocF rfl, rr, rr, trivial⟩
     all_goals
      have hc : arCell n r i k = none := by
       unfold arCell wayO
       first
        | (rw [if_neg]; show ¬ (0 < (n.getD i nd0).many ∧ (n.getD k nd0).many < 0); omega)
        | (have hx : (roadO r (n.getD i nd0).st (n.getD k nd0).st).isSome = false := hb
           cases hro : roadO r (n.getD i nd0).st (n.getD k nd0).st with
           | none => simp
           | some x => rw [hro] at hx; cases hx)
      refine ⟨k + 1, by omega, by omega, ?_⟩
      rw [arPre_succ, hc, Option.toList_none, List.append_nil]
      exact Entails.mk' [(20, 20), (15, 15), (18, 18), (500, 500), (22, 22), (8, 8)] rfl rfl ⟨lr, lr, lr, lr, lr, lr, lr, lr, lr, lr, lr, trivial⟩ ⟨rr, rr, rr, rr, rr, rr, trivial⟩
   · have hkn : k = n.length := by omega
     rw [hkn]
     conv => whnf
     repeat' (first | (refine br_intro ?_ ?_ <;> intro hb <;> (try simp only [brs] at hb) <;> conv => whnf) | (refine RegX.rule (id := 1) hT rfl [] oVPfP59_1 (by decide +kernel) ?_; conv => whnf) | (refine RegX.rule (id := 6) hT rfl [] oVPfP59_6 (by decide +kernel) ?_; conv => whnf) | (refine RegX.rule (id := 12) hT rfl [] oVPfP59_12 (by decide +kernel) ?_; conv => whnf) | omega | (refine And.intro ?_ ?_; ((try dsimp only); first | omega | (refine szA rfl ?_; omega) | (refine szB rfl ?_; omega) | (unfold inI64; omega) | exact rfl | (simp only [lns] at *; omega) | decide | (unfold inI64; decide)); conv => whnf) | decide | assumption)
     all_goals try (exfalso; omega)
     refine ⟨i + 1, by show i + 1 ≤ n.length; omega, by show n.length - (i + 1) < n.length - i; omega, ?_⟩
     rw [← arPre_next]
     exact Entails.mk' [(20, 20), (15, 15), (18, 18), (500, 500), (22, 22)] rfl rfl ⟨lr, lr, lr, lr, lr, lr, trivial⟩ ⟨rr, rr, rr, rr, rr, trivial⟩
 · have hin : i = n.length := by omega
   rw [hin]
   conv => whnf
   repeat' (first | (refine br_intro ?_ ?_ <;> intro hb <;> (try simp only [brs] at hb) <;> conv => whnf) | (refine RegX.rule (id := 1) hT rfl [] oVPfP59_1 (by decide +kernel) ?_; conv => whnf) | (refine RegX.rule (id := 6) hT rfl [] oVPfP59_6 (by decide +kernel) ?_; conv => whnf) | (refine RegX.rule (id := 12) hT rfl [] oVPfP59_12 (by decide +kernel) ?_; conv => whnf) | omega | (refine And.intro ?_ ?_; ((try dsimp only); first | omega | (refine szA rfl ?_; omega) | (refine szB rfl ?_; omega) | (unfold inI64; omega) | exact rfl | (simp only [lns] at *; omega) | decide | (unfold inI64; decide)); conv => whnf) | decide | assumption)
   all_goals try (exfalso; omega)
   refine .freeze _ 15 3 1 _ _ rfl (.freeze _ 18 3 1 _ _ rfl (.ret _ ?_))
   conv => whnf
   rw [arPre_all]
   exact ⟨_, ⟨rfl, rfl⟩, rr, rr, rr, rr, trivial⟩
def vapp : List Int → (Nat → Int) → Nat → Int
 | [], y => y
 | u :: us, y => vcons u (vapp us y)
def lsU {μ : Type} (m : Nat → Int → μ) : Nat → List Int → List μ
 | _, [] => []
 | a, u :: us => (if 0 < u then [m a u] else []) ++ lsU m (a + 1) us
theorem lsV_vapp {μ : Type} (m : Nat → Int → μ) (y : Nat → Int) : ∀ (us : List Int) (a : Nat), lsV m us.length a (vapp us y) = lsU m a us
 | [], _ => rfl
 | u :: us, a => by
   show (if 0 < u then [m a u] else []) ++ lsV m us.length (a + 1) (vtl (vcons u (vapp us y))) = _
   rw [vtl_cons, lsV_vapp m y us (a + 1)]; rfl
theorem arcs_get (n : List Ned) (r : List Roa) (k : Nat) : (arcs n r).getD k ar0 = arcO ((arL n r).getD k a30) := by
 unfold arcs
 rw [List.getD_eq_getElem?_getD, List.getD_eq_getElem?_getD, List.getElem?_map]
 cases (arL n r)[k]? <;> rfl
theorem nwA_arcs (n : List Ned) (r : List Roa) : nwA n.length (arcs n r) = nwG n r := by
 unfold nwA nwG
 have h1 : (arcs n r).length = (arL n r).length := List.length_map _
 rw [h1, funext fun k => congrArg (fun x => Int.toNat (Arc.fr x)) (arcs_get n r k), funext fun k => congrArg (fun x => Int.toNat (Arc.to x)) (arcs_get n r k), funext fun k => congrArg Arc.car (arcs_get n r k)]
 rfl
theorem arL_len {n : List Ned} (h : ndsE n = 0) (r : List Roa) : (arL n r).length ≤ 100 := by
 have h1 := arPre_len n r n.length 0
 rw [arPre_all] at h1
 have h2 := (nds_all h).1
 have h3 : n.length * n.length ≤ 10 * 10 := Nat.mul_le_mul h2 h2
 omega
theorem arcs_ok {n : List Ned} {r : List Roa} (hn : ndsE n = 0) (hr : rdsE r = 0) : ArOk n.length (arcs n r) := by
 have hlen : (arcs n r).length = (arL n r).length := List.length_map _
 have hk := nwG_ok (n := n) hr
 refine ⟨by have := arL_len hn r; omega, fun k h => ?_, fun k h => ?_, fun k h => ?_⟩
 · have := (arL_mem (nwG_at (k := k) (by show k < (arL n r).length; omega))).1.1
   rw [arcs_get]; show 0 ≤ ((((arL n r).getD k a30).fr : Nat) : Int) ∧ ((((arL n r).getD k a30).fr : Nat) : Int) < (n.length : Int); omega
 · have := (arL_mem (nwG_at (k := k) (by show k < (arL n r).length; omega))).2.1.1
   rw [arcs_get]; show 0 ≤ ((((arL n r).getD k a30).to : Nat) : Int) ∧ ((((arL n r).getD k a30).to : Nat) : Int) < (n.length : Int); omega
 · have h1 := hk.1.c0 k (by show k < (arL n r).length; omega)
   have h2 := hk.2 k (by show k < (arL n r).length; omega)
   rw [arcs_get]; exact ⟨h1, h2⟩
theorem ArOk.drop {N : Nat} {A : List Arc} (h : ArOk N A) (a : Nat) : ArOk N (A.drop a) := by
 have e : ∀ k, (A.drop a).getD k ar0 = A.getD (a + k) ar0 := fun k => by rw [List.getD_eq_getElem?_getD, List.getD_eq_getElem?_getD, List.getElem?_drop]
 have hl : (A.drop a).length = A.length - a := List.length_drop
 exact ⟨by have := h.len; omega, fun k hk => by rw [e]; exact h.fr _ (by omega), fun k hk => by rw [e]; exact h.to _ (by omega), fun k hk => by rw [e]; exact h.car _ (by omega)⟩
theorem Sm.drop {A B : List Arc} (h : Sm A B) (a : Nat) : Sm (A.drop a) (B.drop a) := by
 refine ⟨by rw [List.length_drop, List.length_drop, h.len], fun k => ?_⟩
 rw [List.getD_eq_getElem?_getD, List.getD_eq_getElem?_getD, List.getElem?_drop, List.getElem?_drop, ← List.getD_eq_getElem?_getD, ← List.getD_eq_getElem?_getD]
 exact h.fld _
theorem Sm.trans {A B C : List Arc} (h : Sm A B) (k : Sm B C) : Sm A C := ⟨k.len.trans h.len, fun i => ⟨(k.fld i).1.trans (h.fld i).1, (k.fld i).2.1.trans (h.fld i).2.1, (k.fld i).2.2.trans (h.fld i).2.2⟩⟩
theorem getI_hav {n : List Ned} {v : Nat} (hv : v < n.length) : getI (havL n) v = havF n v := fillA_get hv
theorem getI_wnt {n : List Ned} {v : Nat} (hv : v < n.length) : getI (wntL n) v = wntF n v := fillA_get hv
structure PlnI (n : List Ned) (r : List Roa) (a : Nat) (us hl wl : List Int) (C : List Arc) (c : Int) : Prop where
 len : us.length = a
 aK : a ≤ (arcs n r).length
 sm : Sm ((arcs n r).drop a) C
 l1 : hl.length = n.length
 l2 : wl.length = n.length
 hb : ∀ v, v < n.length → 0 ≤ getI hl v ∧ getI hl v ≤ 20
 wb : ∀ v, v < n.length → 0 ≤ getI wl v ∧ getI wl v ≤ 20
 hz : ∀ v, v < n.length → kindB n v = false → getI hl v = 0
 wz : ∀ v, v < n.length → kindB n v = true → getI wl v = 0
 opt : ((nwG n r).sh a).IsOpt (kindB n) (getI hl) (getI wl) c
 cb : 0 ≤ c ∧ c ≤ 1000000000000000
 best : ∀ y, ((nwG n r).sh a).Best (kindB n) (getI hl) (getI wl) c y → ∃ c0, (nwG n r).Best (kindB n) (getI (havL n)) (getI (wntL n)) c0 (vapp us y)
theorem kindB_get {n : List Ned} {v : Nat} : (kindB n v = false → manyP n v < 0) ∧ (kindB n v = true → 0 ≤ manyP n v) := by
 unfold kindB
 constructor
 · intro h; simpa using h
 · intro h; simpa using h
theorem havF_bd {n : List Ned} (hn : ndsE n = 0) (v : Nat) : (0 ≤ havF n v ∧ havF n v ≤ 20) ∧ 0 ≤ wntF n v ∧ wntF n v ≤ 20 := by
 have := ned_many hn v
 unfold havF wntF; omega
theorem PlnI.first {n : List Ned} {r : List Roa} {a : Nat} {us hl wl : List Int} {C : List Arc} {c : Int} (h : PlnI n r a us hl wl C c) (ha : a < (arcs n r).length) (hn : ndsE n = 0) (hr : rdsE r = 0) :
 (C.getD 0 ar0).fr = ((nwG n r).fr a : Nat) ∧ (C.getD 0 ar0).to = ((nwG n r).to a : Nat) ∧ (C.getD 0 ar0).car = (nwG n r).c a ∧ (nwG n r).fr a < n.length ∧ (nwG n r).to a < n.length ∧ 0 ≤ (nwG n r).c a ∧ (nwG n r).c a ≤ 1000000 := by
 have h1 := h.sm.fld 0
 rw [List.getD_eq_getElem?_getD (l := (arcs n r).drop a), List.getElem?_drop, ← List.getD_eq_getElem?_getD, Nat.add_zero, arcs_get] at h1
 have hlen : (arcs n r).length = (arL n r).length := List.length_map _
 have hm := arL_mem (nwG_at (k := a) (by show a < (arL n r).length; omega))
 have hk := nwG_ok (n := n) hr
 exact ⟨h1.1, h1.2.1, h1.2.2, hm.1.1, hm.2.1.1, hk.1.c0 a (by show a < (arL n r).length; omega), hk.2 a (by show a < (arL n r).length; omega)⟩
theorem PlnI.done {n : List Ned} {r : List Roa} {us hl wl : List Int} {C : List Arc} {c : Int} (h : PlnI n r (arcs n r).length us hl wl C c) : ∃ c0 x, (nwG n r).Best (kindB n) (getI (havL n)) (getI (wntL n)) c0 x ∧ lsU (mvN n r) 0 us = lsV (mvN n r) (nwG n r).K 0 x := by
 have hK : (arcs n r).length = (nwG n r).K := List.length_map _
 obtain ⟨c0, hc⟩ := h.best (fun _ => 0) (by rw [hK]; exact Nw.best_end (by have := h.opt; rw [hK] at this; exact this) _)
 refine ⟨c0, _, hc, ?_⟩
 rw [← lsV_vapp (mvN n r) (fun _ => 0) us 0, h.len, hK]
theorem Entails.freeze {s : St} (d e kk n : Nat) (g : Nat → List DV) (hd : s.res d = some (.buf e kk n g)) : Entails s (s.app ⟨none, .any, [(d, some (.fro kk n g))], []⟩) := ⟨fun A a w => by
 rintro ⟨h0, G, β, hm⟩
 obtain ⟨G', _, hm'⟩ := hm.freeze hd
 exact ⟨h0, G', β, hm'⟩⟩
theorem firstE_two {a b : Int} (h : firstE [a, b] = 0) : a = 0 ∧ b = 0 := by
 by_cases ha : a = 0
 · rw [firstE, if_pos ha] at h
   by_cases hb : b = 0
   · exact ⟨ha, hb⟩
   · rw [firstE, if_neg hb] at h; exact absurd h hb
 · rw [firstE, if_neg ha] at h; exact absurd h ha
end Go.Proofs.YteehenjdddlnnaaGreatDoor
namespace Go.Eng
open Go
theorem RowIn.fro {G G' : Hp} {w : World} {e k n : Nat} {v : Value} {get : Nat → List DV} (h : RowIn G w e k v n get) (hle : G.le G') (hg : ∀ b o, blk v = some b → w.heap[b]? = some o → G' b = some o) : DV.Den G' (.ro k n get) v := by
 obtain ⟨xs, hown, hlen, hden⟩ := h
 rcases hown.2 with ⟨rfl, rfl⟩ | ⟨g, cap, cur, rfl, _, hh, hnc, hcm, hcs, htake⟩
 · exact .ronil _ _
 · refine .ro k n get _ cap (fun i j => xs.getD (i * k + j) Go.undef) rfl hnc hcm hlen ?_ ?_
   · intro i j x hi hx
     obtain ⟨u, hu, _⟩ := hden i j x hi hx
     have hlt : i * k + j < n * k := by
      have := (List.getElem?_eq_some_iff.1 hx).1
      rw [hlen i hi] at this
      calc i * k + j < i * k + k := by omega
       _ = (i + 1) * k := by rw [Nat.add_mul, Nat.one_mul]
       _ ≤ n * k := Nat.mul_le_mul_right _ hi
     refine ⟨cur, e, (0, 0), ?_, ?_, ?_⟩
     · rw [Addr.add_block]; exact hg g _ rfl hh
     · exact Addr.add_spot _ rfl _
     · rw [Addr.add_lit]
       simp only [Nat.zero_add]
       rw [← htake, List.getElem?_take_of_lt hlt] at hu
       rw [← Array.getElem?_toList, hu]
       rw [← htake, List.getD_eq_getElem?_getD, List.getElem?_take_of_lt hlt, hu]
       rfl
   · intro i j x hi hx
     obtain ⟨u, hu, hdu⟩ := hden i j x hi hx
     simp only [List.getD_eq_getElem?_getD, hu, Option.getD_some]
     exact hdu.mono hle
end Go.Eng
namespace Go.Eng
open Go
def DV.flat : DV → Bool
 | .bool _ | .int .. | .str _ | .nilsl => true
 | _ => false
theorem DV.Den.flat {G G' : Hp} {x : DV} {v : Value} (h : DV.Den G x v) (hf : x.flat = true) : DV.Den G' x v := by
 cases h <;> first | (constructor; done) | (cases hf)
def SV.flat1 (d : Nat) : SV → Bool
 | .d x => x.flat
 | .buf c => !(Nat.beq c d)
 | _ => false
def SV.flat (d : Nat) : SV → Bool
 | .agg l => l.all (SV.flat1 d)
 | .tup l => l.all (SV.flat1 d)
 | x => SV.flat1 d x
theorem SV.Den.flat1 {G G' : Hp} {β β' : Env} {d : Nat} (hb : ∀ c, c ≠ d → β' c = β c) {x : SV} {v : Value} (h : SV.Den G β x v) (hf : SV.flat1 d x = true) : SV.Den G' β' x v := by
 cases h with
 | d x v hx => exact .d _ _ (hx.flat hf)
 | buf c v hv h1 =>
   refine .buf _ _ ?_ h1
   rw [hb c (by rintro rfl; simp [SV.flat1] at hf)]; exact hv
 | _ => cases hf
theorem SV.Den.flat {G G' : Hp} {β β' : Env} {d : Nat} (hb : ∀ c, c ≠ d → β' c = β c) {x : SV} {v : Value} (h : SV.Den G β x v) (hf : SV.flat d x = true) : SV.Den G' β' x v := by
 cases h with
 | agg l vs hl h =>
   refine .agg _ _ hl (fun i x v hx hv => (h i x v hx hv).flat1 hb ?_)
   exact List.all_eq_true.1 hf x (List.mem_of_getElem? hx)
 | tup l vs hl h =>
   refine .tup _ _ hl (fun i x v hx hv => (h i x v hx hv).flat1 hb ?_)
   exact List.all_eq_true.1 hf x (List.mem_of_getElem? hx)
 | d x v hx => exact (SV.Den.d (β := β) x v hx).flat1 (d := d) hb hf
 | buf c v hv h1 => exact (SV.Den.buf (G := G) c v hv h1).flat1 hb hf
 | _ => cases hf
def Res.flat : Res → Prop
 | .buf _ _ n g => ∀ i, i < n → (g i).all DV.flat = true
 | _ => False
theorem ResOk.flat {G G' : Hp} {β β' : Env} {w : World} {c : Nat} {r : Res} (hb : β' c = β c) (h : ResOk G β w c r) (hf : r.flat) : ResOk G' β' w c r := by
 cases r with
 | buf e k n g =>
   obtain ⟨v, xs, h1, h2, h3, h4, h5⟩ := h
   refine ⟨v, xs, hb.trans h1, h2, h3, h4, fun i j x hi hx => ?_⟩
   obtain ⟨u, hu, hd⟩ := h5 i j x hi hx
   exact ⟨u, hu, hd.flat (List.all_eq_true.1 (hf i hi) x (List.mem_of_getElem? hx))⟩
 | _ => exact hf.elim
end Go.Eng
namespace Go.Eng
open Go
theorem DV.Den.unfrs {G : Hp} {e k n : Nat} {X : Nat → Prop} {get : Nat → List DV} {v : Value} (h : DV.Den G (.frs e k n X get) v) : DV.Den G (.ro k n get) v := by
 cases h with
 | frsnil => exact .ronil _ _
 | frse _ _ _ _ a cap hs hmax => exact .ro _ _ _ _ _ (fun _ _ => Go.undef) hs (Nat.zero_le _) hmax (fun i hi => absurd hi (Nat.not_lt_zero _)) (fun i _ _ hi => absurd hi (Nat.not_lt_zero _)) (fun i _ _ hi => absurd hi (Nat.not_lt_zero _))
 | frs _ _ _ _ _ b cap cur vals hX hb hcap hmax hsz hl hc hd =>
   refine .ro _ _ _ ⟨b, 0, none⟩ cap vals rfl hcap hmax hl (fun i j x hi hx => ?_) hd
   refine ⟨cur, e, (0, 0), ?_, ?_, ?_⟩
   · rw [Addr.add_block]; exact hb
   · exact Addr.add_spot _ rfl _
   · rw [Addr.add_lit]; simpa using hc i j x hi hx
theorem SV.le_frs {e k n : Nat} {X : Nat → Prop} {get : Nat → List DV} : SV.le (.d (.frs e k n X get)) (.d (.ro k n get)) := fun G β v h => by
 cases h with | d _ _ h => exact .d _ _ h.unfrs
theorem SV.le_nilF {e k : Nat} {X : Nat → Prop} {get : Nat → List DV} : SV.le (.d .nilsl) (.d (.frs e k 0 X get)) := fun G β v h => by
 cases h with | d _ _ h => cases h; exact .d _ _ (.frsnil _ _ _ _)
theorem FSpec.thaw {α : Type} {P : Program} {f : FuncId} {args : List SV} {e k : Nat} {S : α → Prop} {N : α → Nat} {Gt : α → Nat → List DV} {B : α → Bool} (hk : 0 < k)
 (h : ∀ X, FSpec P f args [(1000007, .inX X)] (fun y r => (∃ a, S a ∧ y = .tup [.d (.frs e k (N a) X (Gt a)), .d (.bool (B a))]) ∧ r = [(1000007, .inX X)]))
 (hflat : ∀ a, S a → ∀ (i j : Nat) (x : DV), i < N a → (Gt a i)[j]? = some x → DV.flat x = true) :
 FSpec P f args [] (fun y r => ∃ a, S a ∧ ((N a = 0 ∧ y = .tup [.d (.ro k 0 (Gt a)), .d (.bool (B a))] ∧ r = []) ∨ (0 < N a ∧ y = .tup [.buf 7, .d (.bool (B a))] ∧ r = [(7, .buf e k (N a) (Gt a))]))) := by
 refine ⟨(h fun _ => False).enter, fun G β w vs hpre hvl hvd => ?_⟩
 have hβ : ∀ d, β d = none := fun d => by
  cases hb : β d with
  | none => rfl
  | some v => obtain ⟨r, hr⟩ := hpre.sc d v hb; cases hr
 obtain ⟨X, hX⟩ : ∃ X : Nat → Prop, X = fun b => (G b).isSome = true := ⟨_, rfl⟩
 have hle : β.le (fun d => if d = 1000007 then some (.bool true) else none) := fun d v hd => by rw [hβ d] at hd; cases hd
 have hlk : ∀ d r, lookL [((1000007 : Nat), Res.inX X)] d = some r → d = 1000007 ∧ r = .inX X := fun d r hd => by
  simp only [lookL] at hd
  cases hq : Nat.beq d 1000007 with
  | false => rw [hq] at hd; cases hd
  | true => rw [hq] at hd; cases hd; exact ⟨Nat.eq_of_beq_eq_true hq, rfl⟩
 have hpre2 : Pre G (fun d => if d = 1000007 then some (.bool true) else none) w (lookL [((1000007 : Nat), Res.inX X)]) := by
  refine ⟨hpre.gw, fun d r hd => ?_, fun d d' r r' v v' b h1 h2 o1 => ?_, fun d r v b h1 o1 => ?_, fun d v hd => ?_⟩
  · obtain ⟨rfl, rfl⟩ := hlk d r hd
    exact ⟨⟨_, if_pos rfl⟩, fun b hb => by rw [hX] at hb; exact hb⟩
  · obtain ⟨_, rfl⟩ := hlk d r h1; cases o1
  · obtain ⟨_, rfl⟩ := hlk d r h1; cases o1
  · by_cases q : d = 1000007
    · subst q; exact ⟨_, rfl⟩
    · rw [if_neg q] at hd; cases hd
 have hT : ∀ b, ¬ Tin w (fun d => if d = 1000007 then some (.bool true) else none) (lookL [((1000007 : Nat), Res.inX X)]) b := by
  rintro b ⟨d, r, v, h1, h2, _⟩
  obtain ⟨_, rfl⟩ := hlk d r h1; cases h2
 have hT0 : Tin w (fun d => if d = 1000007 then some (.bool true) else none) (lookL [((1000007 : Nat), Res.inX X)]) = Tin w β (lookL []) := by
  funext b
  refine propext ⟨fun z => absurd z (hT b), ?_⟩
  rintro ⟨d, r, v, h1, _⟩; cases h1
 refine ((h X).calls G _ w vs hpre2 hvl (fun i x v hx hv => (hvd i x v hx hv).mono (Hp.le_refl G) hle)).mono ?_
 rintro e' w' ⟨v, y, rout, G', β2, he, ⟨⟨a, hS, rfl⟩, rfl⟩, ho, hden⟩
 have hgn : ∀ b o, G' b = some o → G b = some o ∨ w.heap.size ≤ b := fun b o hb => by
  rcases ho.gn b o hb with q | q | q
  · exact .inl q
  · exact absurd q (hT b)
  · exact .inr q
 have hkeep := ho.keep
 rw [hT0] at hkeep
 cases hden with | tup _ us hul hu =>
 have hul : us.length = 2 := hul
 obtain ⟨v0, v1, rfl⟩ : ∃ v0 v1, us = [v0, v1] := by
  match us, hul with
  | [v0, v1], _ => exact ⟨v0, v1, rfl⟩
 have d0 := hu 0 _ _ rfl rfl
 have d1 := hu 1 _ _ rfl rfl
 cases d0 with | d _ _ d0 =>
 cases d1 with | d _ _ d1 =>
 cases d1 with | bool =>
 rcases Nat.eq_zero_or_pos (N a) with hz | hz
 · refine ⟨_, .tup [.d (.ro k 0 (Gt a)), .d (.bool (B a))], [], G', β, he, ⟨a, hS, .inl ⟨hz, rfl, rfl⟩⟩, ⟨ho.gle, Env.le_refl β, ho.gw, fun b o hb => (hgn b o hb).imp id .inr, hkeep, (fun d r hd => by cases hd), (fun d d' r r' v v' b hd => by cases hd), (fun d r v b hd => by cases hd)⟩, ?_⟩
   refine .tup _ _ rfl (fun i x v hx hv => ?_)
   match i, hx, hv with
   | 0, hx, hv => cases hx; cases hv; rw [hz] at d0; exact .d _ _ d0.unfrs
   | 1, hx, hv => cases hx; cases hv; exact .d _ _ (.bool _)
 · obtain ⟨m, hNm⟩ : ∃ m, N a = m := ⟨_, rfl⟩
   obtain ⟨gt, hGm⟩ : ∃ gt, Gt a = gt := ⟨_, rfl⟩
   have hfl := fun (i j : Nat) (x : DV) (hi : i < m) (hx : (gt i)[j]? = some x) => hflat a hS i j x (by omega) (by rw [hGm]; exact hx)
   rw [hNm, hGm] at d0
   rw [hNm] at hz
   cases d0 with
   | frsnil _ _ _ _ => omega
   | frse _ _ _ _ _ _ _ _ => omega
   | frs _ _ _ _ _ b cap cur vals hXb hb hcap hmax hsz hl hc hd =>
     have hGb : G b = none := by
      cases hg : G b with
      | none => rfl
      | some o => exact absurd (by rw [hX]; show (G b).isSome = true; rw [hg]; rfl) hXb
     have hbs : w.heap.size ≤ b := by
      rcases hgn b _ hb with q | q
      · rw [hGb] at q; cases q
      · exact q
     refine ⟨_, .tup [.buf 7, .d (.bool (B a))], [(7, .buf e k m gt)], fun c => if c = b then none else G' c, fun d => if d = 7 then some (.slice (some ⟨b, 0, none⟩) m cap) else none, he, ⟨a, hS, .inr ⟨by omega, rfl, by rw [hNm, hGm]⟩⟩, ?_, ?_⟩
     · have hlk7 : ∀ d r, lookL [((7 : Nat), Res.buf e k m gt)] d = some r → d = 7 ∧ r = .buf e k m gt := fun d r hd => by
        simp only [lookL] at hd
        cases hq : Nat.beq d 7 with
        | false => rw [hq] at hd; cases hd
        | true => rw [hq] at hd; cases hd; exact ⟨Nat.eq_of_beq_eq_true hq, rfl⟩
       refine ⟨fun c o hg => ?_, (fun d v hd => by rw [hβ d] at hd; cases hd), fun c o hg => ?_, fun c o hg => ?_, hkeep, fun d r hdl => ?_, fun d d' r r' v v' c h1 h2 _ _ _ _ _ _ => ?_, fun d r v c h1 o1 hv hbk => ?_⟩
       · have : c ≠ b := fun q => by rw [q, hGb] at hg; cases hg
         show (if c = b then none else G' c) = some o
         rw [if_neg this]; exact ho.gle c o hg
       · have hg : (if c = b then none else G' c) = some o := hg
         split at hg
         · cases hg
         · exact ho.gw c o hg
       · have hg : (if c = b then none else G' c) = some o := hg
         split at hg
         · cases hg
         · exact (hgn c o hg).imp id .inr
       · obtain ⟨rfl, rfl⟩ := hlk7 d r hdl
         have hlen : m * k ≤ cur.size := by rw [hsz]; exact Nat.mul_le_mul_right _ hcap
         refine ⟨_, cur.toList.take (m * k), if_pos rfl, ⟨?_, .inr ⟨b, cap, cur, rfl, by omega, ho.gw _ _ hb, hcap, hmax, hsz, rfl⟩⟩, hk, hl, fun i j x hi hx => ?_⟩
         · simp; omega
         · have hlt : i * k + j < m * k := by
            have := (List.getElem?_eq_some_iff.1 hx).1
            rw [hl i hi] at this
            calc i * k + j < i * k + k := by omega
             _ = (i + 1) * k := by rw [Nat.add_mul, Nat.one_mul]
             _ ≤ m * k := Nat.mul_le_mul_right _ hi
           refine ⟨vals i j, ?_, (hd i j x hi hx).flat (hfl i j x hi hx)⟩
           rw [List.getElem?_take_of_lt hlt, Array.getElem?_toList]; exact hc i j x hi hx
       · rw [(hlk7 d r h1).1, (hlk7 d' r' h2).1]
       · obtain ⟨rfl, rfl⟩ := hlk7 d r h1
         have hv : (if 7 = 7 then some (Value.slice (some ⟨b, 0, none⟩) m cap) else none) = some v := hv
         rw [if_pos rfl] at hv; cases hv
         have : b = c := by have := hbk.plain rfl; cases this; rfl
         subst this
         exact ⟨if_pos rfl, .inr hbs⟩
     · refine .tup _ _ rfl (fun i x v hx hv => ?_)
       match i, hx, hv with
       | 0, hx, hv => cases hx; cases hv; exact .buf _ _ (if_pos rfl) rfl
       | 1, hx, hv => cases hx; cases hv; exact .d _ _ (.bool _)
end Go.Eng
set_option maxRecDepth 20000
namespace Go.Proofs.YteehenjdddlnnaaGreatDoor
open Go Go.Eng
theorem p138 (n : Int) : FSpec Tryz.prog 138 [.d (.int .i64 n)] [] (fun y r => y = .d (.int .i64 (sgnI n)) ∧ r = []) := by
 refine spec_of hT (C := []) Tryz.func138 rfl Tryz.call138 rfl rfl rfl ?_
 conv => whnf
 repeat' (first | (refine br_intro ?_ ?_ <;> intro hb <;> (try simp only [brs] at hb) <;> conv => whnf) | omega | (refine And.intro ?_ ?_; ((try dsimp only); first | omega | (refine szA rfl ?_; omega) | (refine szB rfl ?_; omega) | (unfold inI64; omega) | exact rfl | (simp only [lns] at *; omega) | decide | (unfold inI64; decide)); conv => whnf) | decide | assumption)
 all_goals
  refine .ret _ ?_
  conv => whnf
  refine ⟨[], ⟨?_, rfl⟩, trivial⟩
  conv => lhs; whnf
  unfold sgnI
  first
   | (rw [if_pos (by omega)]; done)
   | (rw [if_neg (by omega), if_pos (by omega)]; done)
   | (rw [if_neg (by omega), if_neg (by omega)]; done)
def mvS (x : Mov) : Prop := -1000000 ≤ x.many ∧ x.many ≤ 1000000
theorem p121 (x y : Mov) (hx : mvS x) (hy : mvS y) : FSpec Tryz.prog 121 [.agg ((mvF x).map .d), .agg ((mvF y).map .d)] [] (fun v r => v = .d (.int .i64 (mvC x y)) ∧ r = []) := by
 obtain ⟨hx1, hx2⟩ := hx
 obtain ⟨hy1, hy2⟩ := hy
 obtain ⟨c, hc⟩ : ∃ c, endsC x.a x.b y.a y.b = c := ⟨_, rfl⟩
 have h108 := z108 x.a x.b y.a y.b
 rw [hc] at h108
 refine spec_of hT (C := []) Tryz.func121 rfl Tryz.call121 rfl rfl rfl ?_
 conv => whnf
 repeat' (first | (refine CallX.exact (h108) rfl rfl ?_; rotate_right; conv => whnf) | (refine CallX.exact (p138 _) rfl rfl ?_; rotate_right; conv => whnf) | (refine br_intro ?_ ?_ <;> intro hb <;> (try simp only [brs] at hb) <;> conv => whnf) | omega | (refine And.intro ?_ ?_; ((try dsimp only); first | omega | (refine szA rfl ?_; omega) | (refine szB rfl ?_; omega) | (unfold inI64; omega) | exact rfl | (simp only [lns] at *; omega) | decide | (unfold inI64; decide)); conv => whnf) | decide | assumption)
 all_goals
  refine .ret _ ?_
  conv => whnf
  refine ⟨[], ⟨?_, rfl⟩, trivial⟩
  conv => lhs; whnf
  unfold mvC
  rw [hc]
  first
   | (rw [if_pos (by omega)]; done)
   | (rw [if_neg (by omega)]; done)
theorem cmpF_drop {α : Type} {c : α → α → Int} {d : α} {a b : List α} {i : Nat} (h1 : i < a.length) (h2 : i < b.length) : cmpF c (a.drop i) (b.drop i) = if c (a.getD i d) (b.getD i d) = 0 then cmpF c (a.drop (i + 1)) (b.drop (i + 1)) else c (a.getD i d) (b.getD i d) := by
 rw [List.drop_eq_getElem_cons h1, List.drop_eq_getElem_cons h2, cmpF]
 have e1 : a.getD i d = a[i] := by simp [List.getD_eq_getElem?_getD, h1]
 have e2 : b.getD i d = b[i] := by simp [List.getD_eq_getElem?_getD, h2]
 rw [e1, e2]
set_option maxHeartbeats 4000000 in
theorem p120 (a b : List Mov) (ha : a.length ≤ 2^40) (hb0 : b.length ≤ 2^40) (h1 : ∀ m ∈ a, mvS m) (h2 : ∀ m ∈ b, mvS m) : FSpec Tryz.prog 120 [.d (movs a), .d (movs b), .fn 121 []] [] (fun v r => v = .d (.int .i64 (cmpF mvC a b)) ∧ r = []) := by
 refine spec_of hT (C := []) Tryz.func120 rfl Tryz.call120 rfl rfl rfl ?_
 conv => whnf
 refine LoopX.rule hT (C := []) (ι := Nat) (fun i => (i ≤ a.length ∧ i ≤ b.length) ∧ cmpF mvC a b = cmpF mvC (a.drop i) (b.drop i)) (fun i => mkSt [(0, .d (movs a)), (1, .d (movs b)), (2, .fn 121 []), (11, .d (movs a)), (12, .d (.int .i64 a.length)), (13, .d (.int .i64 i))] []) (fun i => a.length - i) 0 ⟨⟨Nat.zero_le _, Nat.zero_le _⟩, rfl⟩ ?_ ?_
 · exact Entails.mk' [] rfl rfl ⟨lr, lr, lr, lr, lr, lr, trivial⟩ trivial
 rintro i ⟨⟨hi1, hi2⟩, hc⟩
 have hi1 : i ≤ a.length := hi1
 have hi2 : i ≤ b.length := hi2
 have ei : (i : Int).toNat = i := Int.toNat_natCast i
 have hx : i < a.length → mvS (a.getD (i : Int).toNat mv0) := fun h => h1 _ (getD_mem (by rw [ei]; exact h))
 have hy : i < b.length → mvS (b.getD (i : Int).toNat mv0) := fun h => h2 _ (getD_mem (by rw [ei]; exact h))
 rcases Nat.lt_or_ge i a.length with hia | hia
 · rcases Nat.lt_or_ge i b.length with hib | hib
   · obtain ⟨c, hcc⟩ : ∃ c, mvC (a.getD (i : Int).toNat mv0) (b.getD (i : Int).toNat mv0) = c := ⟨_, rfl⟩
     have h121 := p121 _ _ (hx hia) (hy hib)
     rw [hcc] at h121
     have hd := cmpF_drop (c := mvC) (d := mv0) hia hib
     rw [ei] at hcc
     rw [hcc] at hd
     conv => whnf
     repeat' (first | (refine CallX.exact (h121) rfl rfl ?_; rotate_right; conv => whnf) | (refine br_intro ?_ ?_ <;> intro hb <;> (try simp only [brs] at hb) <;> conv => whnf) | omega | (refine And.intro ?_ ?_; ((try dsimp only); first | omega | (refine szA rfl ?_; omega) | (refine szB rfl ?_; omega) | (unfold inI64; omega) | exact rfl | (simp only [lns] at *; omega) | decide | (unfold inI64; decide)); conv => whnf) | decide | assumption)
     all_goals try (exfalso; omega)
     · refine .ret _ ?_
       conv => whnf
       refine ⟨[], ⟨?_, rfl⟩, trivial⟩
       conv => lhs; whnf
       rw [hc, hd, if_neg (by omega)]
     · rw [if_pos (by omega)] at hd
       exact ⟨i + 1, ⟨⟨hia, hib⟩, by rw [hc, hd]⟩, by omega, Entails.mk' [] rfl rfl ⟨lr, lr, lr, lr, lr, lr, trivial⟩ trivial⟩
   · conv => whnf
     repeat' (first | (refine br_intro ?_ ?_ <;> intro hb <;> (try simp only [brs] at hb) <;> conv => whnf) | omega | (refine And.intro ?_ ?_; ((try dsimp only); first | omega | (refine szA rfl ?_; omega) | (refine szB rfl ?_; omega) | (unfold inI64; omega) | exact rfl | (simp only [lns] at *; omega) | decide | (unfold inI64; decide)); conv => whnf) | decide | assumption)
     all_goals try (exfalso; omega)
     refine .ret _ ?_
     conv => whnf
     refine ⟨[], ⟨?_, rfl⟩, trivial⟩
     conv => lhs; whnf
     rw [hc, List.drop_eq_nil_of_le hib, List.drop_eq_getElem_cons hia]; rfl
 · conv => whnf
   repeat' (first | (refine br_intro ?_ ?_ <;> intro hb <;> (try simp only [brs] at hb) <;> conv => whnf) | omega | (refine And.intro ?_ ?_; ((try dsimp only); first | omega | (refine szA rfl ?_; omega) | (refine szB rfl ?_; omega) | (unfold inI64; omega) | exact rfl | (simp only [lns] at *; omega) | decide | (unfold inI64; decide)); conv => whnf) | decide | assumption)
   all_goals try (exfalso; omega)
   all_goals
    refine .ret _ ?_
    conv => whnf
    refine ⟨[], ⟨?_, rfl⟩, trivial⟩
    conv => lhs; whnf
    rw [hc, List.drop_eq_nil_of_le hia]
   · rw [List.drop_eq_getElem_cons (by omega)]; rfl
   · rw [List.drop_eq_nil_of_le (by omega)]; rfl
abbrev pmF (p : Pla Mov) : List DV := [movs p.l, .int .i64 p.cost]
abbrev frsM (X : Nat → Prop) (l : List Mov) : DV := .frs 70 3 l.length X (rowF mvF mv0 l)
abbrev pzF (X : Nat → Prop) (p : Pla Mov) : List DV := [frsM X p.l, .int .i64 p.cost]
def pzB (p : Pla Mov) : Prop := p.l.length ≤ 1000 ∧ ∀ m ∈ p.l, mvS m
theorem p96 (p q : Pla Mov) (hp : pzB p) (hq : pzB q) : FSpec Tryz.prog 96 [.agg ((pmF p).map .d), .agg ((pmF q).map .d)] [] (fun v r => v = .d (.bool (lessP mvC p q)) ∧ r = []) := by
 have hp1 := hp.1
 have hq1 := hq.1
 refine spec_of hT (C := []) Tryz.func96 rfl Tryz.call96 rfl rfl rfl ?_
 conv => whnf
 repeat' (first | (refine CallX.exact (p120 p.l q.l (by omega) (by omega) hp.2 hq.2) rfl rfl ?_; rotate_right; conv => whnf) | (refine br_intro ?_ ?_ <;> intro hb <;> (try simp only [brs] at hb) <;> conv => whnf) | omega | (refine And.intro ?_ ?_; ((try dsimp only); first | omega | (refine szA rfl ?_; omega) | (refine szB rfl ?_; omega) | (unfold inI64; omega) | exact rfl | (simp only [lns] at *; omega) | decide | (unfold inI64; decide)); conv => whnf) | decide | assumption)
 all_goals
  refine .ret _ ?_
  conv => whnf
  refine ⟨[], ⟨?_, rfl⟩, trivial⟩
  conv => lhs; whnf
  unfold lessP
  first
   | (rw [if_pos (by omega)]; done)
   | (rw [if_neg (by omega)]; done)
abbrev bys (l : List UInt8) : DV := seqD 1 byteD 0 l
theorem p97 (l : List UInt8) (hl : l.length ≤ 2^20) : FSpec Tryz.prog 97 [.d (bys l)] [] (fun y r => y = .buf 7 ∧ r = [(7, seqB 5 1 byteD 0 l)]) := by
 refine spec_of hT (C := [5]) Tryz.func97 rfl Tryz.call97 rfl rfl rfl ?_
 conv => whnf
 rintro b hbn
 conv => whnf
 repeat' (first | (refine br_intro ?_ ?_ <;> intro hb <;> (try simp only [brs] at hb) <;> conv => whnf) | omega | (refine And.intro ?_ ?_; ((try dsimp only); first | omega | (refine szA rfl ?_; omega) | (refine szB rfl ?_; omega) | (unfold inI64; omega) | exact rfl | (simp only [lns] at *; omega) | decide | (unfold inI64; decide)); conv => whnf) | decide | assumption)
 · have h0 : l = [] := List.eq_nil_of_length_eq_zero (hbn (by assumption))
   subst h0
   refine .ent _ _ (Entails.nil 2 7 5 1 (rowF byteD 0 []) rfl rfl (by decide)) (.ret _ ?_)
   conv => whnf
   exact ⟨_, ⟨rfl, rfl⟩, rr, trivial⟩
 · refine .ret _ ?_
   conv => whnf
   refine ⟨_, ⟨rfl, rfl⟩, Res.le_buf (by simp) (fun i hi => ?_), trivial⟩
   rw [appGet_ge (by omega)]; rfl
theorem p98 (l : List Mov) (hl : l.length ≤ 2^20) : FSpec Tryz.prog 98 [.d (movs l)] [] (fun y r => y = .buf 7 ∧ r = [(7, seqB 70 3 mvF mv0 l)]) := by
 refine spec_of hT (C := [5]) Tryz.func98 rfl Tryz.call98 rfl rfl rfl ?_
 conv => whnf
 rintro b hbn
 conv => whnf
 repeat' (first | (refine br_intro ?_ ?_ <;> intro hb <;> (try simp only [brs] at hb) <;> conv => whnf) | omega | (refine And.intro ?_ ?_; ((try dsimp only); first | omega | (refine szA rfl ?_; omega) | (refine szB rfl ?_; omega) | (unfold inI64; omega) | exact rfl | (simp only [lns] at *; omega) | decide | (unfold inI64; decide)); conv => whnf) | decide | assumption)
 · have h0 : l = [] := List.eq_nil_of_length_eq_zero (hbn (by assumption))
   subst h0
   refine .ent _ _ (Entails.nil 2 7 70 3 (rowF mvF mv0 []) rfl rfl (by decide)) (.ret _ ?_)
   conv => whnf
   exact ⟨_, ⟨rfl, rfl⟩, rr, trivial⟩
 · refine .ret _ ?_
   conv => whnf
   refine ⟨_, ⟨rfl, rfl⟩, Res.le_buf (by simp) (fun i hi => ?_), trivial⟩
   rw [appGet_ge (by omega)]; rfl
def keyS : List DV → List UInt8
 | [.str s] => s
 | _ => []
theorem wk_str {K : List DV} (h : wk [.str] K = true) : ∃ s, K = [.str s] := by
 cases K with
 | nil => simp [wk] at h
 | cons x r =>
   cases r with
   | cons y r => simp [wk] at h
   | nil => cases x <;> simp [wk, wk1] at h; exact ⟨_, rfl⟩
def pzV (X : Nat → Prop) : Option (Pla Mov) → List DV
 | some p => pzF X p
 | none => [.nilsl, .int .i64 0]
def pmH (M : PMap Mov) (K : List DV) : Bool := (M (keyS K)).isSome
def pmV (X : Nat → Prop) (M : PMap Mov) (K : List DV) : List DV := pzV X (M (keyS K))
abbrev pmR (X : Nat → Prop) (M : PMap Mov) : Res := .map false true [.str] [.nilsl, .int .i64 0] (pmH M) (pmV X M)
theorem SV.le_frsx {e k n m : Nat} {X : Nat → Prop} {g h : Nat → List DV} (hn : n = m) (hg : ∀ i, i < n → g i = h i) : SV.le (.d (.frs e k n X g)) (.d (.frs e k m X h)) := by
 subst hn
 intro G β v hv
 cases hv with | d _ _ hv =>
 refine .d _ _ ?_
 cases hv with
 | frsnil => exact .frsnil _ _ _ _
 | frse _ _ _ _ a cap hs hmax => exact .frse _ _ _ _ a cap hs hmax
 | frs _ _ _ _ _ b cap cur vals hX hb hcap hmax hsz hl hc hd => exact .frs _ _ _ _ _ b cap cur vals hX hb hcap hmax hsz (fun i hi => by rw [← hg i hi]; exact hl i hi) (fun i j x hi hx => hc i j x hi (by rw [hg i hi]; exact hx)) (fun i j x hi hx => hd i j x hi (by rw [hg i hi]; exact hx))
theorem keyEq_str (s x : List UInt8) : keyEq [.str s] [.str x] = decide (s = x) := by rw [Bool.eq_iff_iff]; simp [keyEq, keyEq1]
theorem pmR_ins {X : Nat → Prop} {M M' : PMap Mov} {x : List UInt8} {p : Pla Mov} (h : ∀ s, M' s = if s = x then some p else M s) :
 Res.le (.map false true [.str] [.nilsl, .int .i64 0] (fun q => keyEq q [.str x] || pmH M q) (fun q => bif keyEq q [.str x] then pzF X p else pmV X M q)) (pmR X M') := Res.le_map fun K hK => by
 obtain ⟨s, rfl⟩ := wk_str hK
 rw [keyEq_str]
 unfold pmH pmV
 show (decide (s = x) || (M s).isSome) = (M' s).isSome ∧ (bif decide (s = x) then pzF X p else pzV X (M s)) = pzV X (M' s)
 rw [h s]
 by_cases q : s = x
 · rw [if_pos q, decide_eq_true q]; exact ⟨rfl, rfl⟩
 · rw [if_neg q, decide_eq_false q]; exact ⟨Bool.false_or _, rfl⟩
theorem pmR_eq {X : Nat → Prop} {M M' : PMap Mov} (h : ∀ s, M' s = M s) : Res.le (pmR X M) (pmR X M') := by
 have : M' = M := funext h
 rw [this]; exact rr
def oVPfT69_12 : List (Nat × List Nat) := [(0, []), (1, []), (3, [0, 1]), (4, [0, 1, 3]), (5, [0, 1, 3, 4]), (6, [0, 1, 3]), (7, [0, 1, 3]), (8, [0, 1, 3, 4, 5, 6, 7]), (9, [0, 1]), (10, [0, 1]), (12, [0, 1, 3, 4, 5, 6, 7, 8, 9, 10]), (13, [0, 1, 3, 4, 5, 6, 7, 8, 9, 10]), (14, [0, 1, 3, 4, 5, 6, 7, 8, 9, 10, 12, 13]), (15, [0, 1, 3, 4, 5, 6, 7, 8, 9, 10, 12, 13, 14]), (16, [0, 1, 3, 4, 5, 6, 7, 8, 9, 10, 12, 13, 14]), (17, [0, 1, 3, 4, 5, 6, 7, 8, 9, 10, 12, 13]), (18, [0, 1, 3, 4, 5, 6, 7, 8, 9, 10]), (20, [0, 1, 3, 4, 5, 6, 7, 8, 9, 10, 12, 13, 14, 15, 16, 17, 18]), (2, [3, 4, 5, 6, 7, 8, 9, 10, 12, 13, 14, 15, 16, 17, 18, 20]), (11, [12, 13, 14, 15, 16, 17, 18, 20]), (19, [20]), (21, [])]
def mapB (M : PMap Mov) : Prop := ∀ σ q, M σ = some q → pzB q
theorem insM_b {M : PMap Mov} (h : mapB M) {σ : List UInt8} {p : Pla Mov} (hp : pzB p) : mapB (insM mvC M σ p) := by
 intro τ q hq
 unfold insM at hq
 split at hq
 · cases hM : M σ with
   | none => rw [hM] at hq; cases hq; exact hp
   | some old =>
     rw [hM] at hq
     simp only at hq
     split at hq
     · cases hq; exact hp
     · cases hq; exact h σ _ hM
 · exact h τ q hq
theorem rep_b {F : Int → PMap Mov → PMap Mov} : ∀ {n : Nat} {M : PMap Mov}, mapB M → (∀ k M, 1 ≤ k → k ≤ (n : Int) → mapB M → mapB (F k M)) → mapB (rep F n M)
 | 0, _, h, _ => h
 | n + 1, M, h, hF => by
   rw [rep]
   exact hF _ _ (by omega) (by omega) (rep_b h fun k M h1 h2 hM => hF k M h1 (by omega) hM)
def roomP (p : Pla Mov) (left : Int) (d : Nat) : Prop := (p.l.length + d ≤ 1000 ∧ ∀ m ∈ p.l, mvS m) ∧ (0 ≤ left ∧ left ≤ 20) ∧ 0 ≤ p.cost ∧ p.cost + left * 1000000 ≤ 1000000000000
theorem roomP.b {p : Pla Mov} {left : Int} {d : Nat} (h : roomP p left d) : pzB p := ⟨by have := h.1.1; omega, h.1.2⟩
theorem roomP.skip {p : Pla Mov} {left : Int} {d : Nat} (h : roomP p left (d + 1)) : roomP p left d := ⟨⟨by have := h.1.1; omega, h.1.2⟩, h.2⟩
theorem roomP.app {p : Pla Mov} {left n car : Int} {d : Nat} (h : roomP p left (d + 1)) (h1 : 1 ≤ n) (h2 : n ≤ left) (hc : 0 ≤ car ∧ car ≤ 1000000) {a b : List UInt8} : roomP (p.app [⟨a, b, n⟩] (n * car)) (left - n) d := by
 obtain ⟨⟨q1, q2⟩, q3, q4, q5⟩ := h
 have hm : 0 ≤ n * car := Int.mul_nonneg (by omega) hc.1
 have hm2 : n * car ≤ n * 1000000 := Int.mul_le_mul_of_nonneg_left hc.2 (by omega)
 refine ⟨⟨?_, fun m hm => ?_⟩, by omega, ?_, ?_⟩
 · show (p.l ++ _).length + d ≤ 1000
   rw [List.length_append]; simp; omega
 · rcases List.mem_append.1 hm with z | z
   · exact q2 m z
   · have : m = ⟨a, b, n⟩ := by simpa using z
     subst this
     exact ⟨by show -1000000 ≤ n; omega, by show n ≤ 1000000; omega⟩
 · show 0 ≤ p.cost + n * car; omega
 · show p.cost + n * car + (left - n) * 1000000 ≤ 1000000000000
   have : (left - n) * 1000000 = left * 1000000 - n * 1000000 := Int.sub_mul _ _ _
   omega
structure SndO (r : List Roa) (fr : List UInt8) (want : List (List UInt8)) (s : Stn Mov) : Prop where
 way : ∀ k, k < want.length → s.way k = (roadO r fr (want.getD k [])).map (·.car)
 mv : ∀ k v, k < want.length → s.mv k v = ⟨fr, want.getD k [], v⟩
theorem stL_len (st : List UInt8) (k : Nat) (n : Int) : (stL st k n).length = st.length := by unfold stL; rw [List.length_set]
theorem sendM_b {r : List Roa} {fr : List UInt8} {want : List (List UInt8)} {s : Stn Mov} (hs : SndO r fr want s) (hr : rdsE r = 0) : ∀ (d k : Nat) (st : List UInt8) (left : Int) (p : Pla Mov) (M : PMap Mov), k + d = want.length → roomP p left d → mapB M → mapB (sendM mvC s d k st left p M) := by
 intro d
 induction d with
 | zero => intro k st left p M _ hp hM; rw [sendM]; exact insM_b hM hp.b
 | succ d ih =>
   intro k st left p M hk hp hM
   have h1 := ih (k + 1) st left p M (by omega) hp.skip hM
   rw [sendM, hs.way k (by omega)]
   cases q : roadO r fr (want.getD k []) with
   | none => exact h1
   | some x =>
     have hx := (roadO_bd hr q).1
     refine rep_b h1 fun n M' n1 n2 hM' => ?_
     refine ih (k + 1) _ _ _ _ (by omega) ?_ hM'
     rw [hs.mv k n (by omega)]
     exact hp.app n1 (by omega) hx
set_option maxHeartbeats 8000000 in
theorem p69 {X : Nat → Prop} {r : List Roa} {fr : List UInt8} {want : List (List UInt8)} {s : Stn Mov} (hs : SndO r fr want s) (hr : rdsE r = 0) (hw : want.length ≤ 1000) : ∀ (d k : Nat) (st : List UInt8) (left : Int) (p : Pla Mov) (M : PMap Mov), k + d = want.length → st.length = want.length → roomP p left d → mapB M →
 FSpec Tryz.prog 69 [.d (roas r), .d (.str fr), .d (strs want), .d (bys st), .d (.int .i64 k), .d (.int .i64 left), .agg ((pzF X p).map .d), .mp 1000000] [(1000000, pmR X M), (1000007, .inX X)] (fun y q => y = .tup [] ∧ q = [(1000000, pmR X (sendM mvC s d k st left p M)), (1000007, .inX X)]) := by
 intro d
 induction d with
 | zero =>
   intro k st left p M hk hst hp hM
   cases hMs : M st with
   | none =>
     have hm2 : M (keyS [.str st]) = none := hMs
     have hv : pmV X M [.str st] = [.nilsl, .int .i64 0] := by unfold pmV; rw [hm2]; rfl
     have hh : pmH M [.str st] = false := by unfold pmH; rw [hm2]; rfl
     refine spec_of hT (C := []) Tryz.func69 rfl Tryz.call69 rfl rfl rfl ?_
     conv => whnf
     repeat' (first | (refine And.intro (rfl : zrow _ = some [.nilsl, .int .i64 0]) ?_; conv => whnf) | (refine ⟨st, ⟨rfl, fun _ _ => rfl⟩, ?_⟩; conv => whnf) | (rw [hv, hh]; conv => whnf) | (refine br_intro ?_ ?_ <;> intro hb <;> (try simp only [brs] at hb) <;> conv => whnf) | (refine RegX.rule (id := 12) hT rfl [] oVPfT69_12 (by decide +kernel) ?_; conv => whnf) | omega | (refine And.intro ?_ ?_; ((try dsimp only); first | omega | (refine szA rfl ?_; omega) | (refine szB rfl ?_; omega) | (unfold inI64; omega) | exact rfl | (simp only [lns] at *; omega) | decide | (unfold inI64; decide)); conv => whnf) | decide | assumption)
     all_goals try (exfalso; omega)
     refine .ret _ ?_
     conv => whnf
     refine ⟨_, ⟨rfl, rfl⟩, ?_, rr, trivial⟩
     refine pmR_ins fun s' => ?_
     rw [sendM, insM, hMs]
   | some old =>
     have hm2 : M (keyS [.str st]) = some old := hMs
     have hv : pmV X M [.str st] = pzF X old := by unfold pmV; rw [hm2]; rfl
     have hh : pmH M [.str st] = true := by unfold pmH; rw [hm2]; rfl
     refine spec_of hT (C := []) Tryz.func69 rfl Tryz.call69 rfl rfl rfl ?_
     conv => whnf
     repeat' (first | (refine And.intro (rfl : zrow _ = some [.nilsl, .int .i64 0]) ?_; conv => whnf) | (refine ⟨st, ⟨rfl, fun _ _ => rfl⟩, ?_⟩; conv => whnf) | (rw [hv, hh]; conv => whnf) | (refine CallX.pure (p96 p old hp.b (hM _ _ hMs)) ⟨SV.le_agg ⟨SV.le_frs, lr, trivial⟩, SV.le_agg ⟨SV.le_frs, lr, trivial⟩, trivial⟩ rfl ?_; conv => whnf) | (refine br_intro ?_ ?_ <;> intro hb <;> (try simp only [brs] at hb) <;> conv => whnf) | (refine RegX.rule (id := 12) hT rfl [] oVPfT69_12 (by decide +kernel) ?_; conv => whnf) | omega | (refine And.intro ?_ ?_; ((try dsimp only); first | omega | (refine szA rfl ?_; omega) | (refine szB rfl ?_; omega) | (unfold inI64; omega) | exact rfl | (simp only [lns] at *; omega) | decide | (unfold inI64; decide)); conv => whnf) | decide | assumption)
     all_goals try (exfalso; omega)
     · refine .ret _ ?_
       conv => whnf
       refine ⟨_, ⟨rfl, rfl⟩, ?_, rr, trivial⟩
       refine pmR_ins fun s' => ?_
       rw [sendM, insM, hMs]
       simp only [hb, if_true]
     · refine .ret _ ?_
       conv => whnf
       refine ⟨_, ⟨rfl, rfl⟩, ?_, rr, trivial⟩
       refine pmR_eq fun s' => ?_
       rw [sendM, insM, hMs]
       simp only [hb]
       by_cases q : s' = st
       · rw [if_pos q, q, hMs]; rfl
       · rw [if_neg q]
 | succ d ih =>
   intro k st left p M hk hst hp hM
   have hrl := (rds_all hr).1
   have ek : (k : Int).toNat = k := Int.toNat_natCast k
   obtain ⟨⟨hp1, hp2⟩, hp3, hp4, hp5⟩ := hp
   have hp : roomP p left (d + 1) := ⟨⟨hp1, hp2⟩, hp3, hp4, hp5⟩
   have hway := hs.way k (by omega)
   have hM1 := sendM_b hs hr d (k + 1) st left p M (by omega) hp.skip hM
   have h113 := z113 r (by omega) fr (want.getD (k : Int).toNat [])
   have hih := ih (k + 1) st left p M (by omega) hst hp.skip hM
   cases hro : roadO r fr (want.getD k []) with
   | none =>
     rw [hro] at hway
     rw [ek, hro] at h113
     rw [← ek] at h113
     refine spec_of hT (C := []) Tryz.func69 rfl Tryz.call69 rfl rfl rfl ?_
     conv => whnf
     repeat' (first | (refine CallX.of hih [(1000000, 1000000), (1000007, 1000007)] rfl ⟨lr, lr, lr, lr, SV.le_int (by omega), lr, lr, lr, trivial⟩ ⟨rr, rr, trivial⟩ rfl rfl ?_; rintro x rout ⟨rfl, rfl⟩; refine ⟨rfl, ?_⟩; conv => whnf) | (refine CallX.exact (h113) rfl rfl ?_; rotate_right; conv => whnf) | (refine br_intro ?_ ?_ <;> intro hb <;> (try simp only [brs] at hb) <;> conv => whnf) | (refine RegX.rule (id := 12) hT rfl [] oVPfT69_12 (by decide +kernel) ?_; conv => whnf) | omega | (refine And.intro ?_ ?_; ((try dsimp only); first | omega | (refine szA rfl ?_; omega) | (refine szB rfl ?_; omega) | (unfold inI64; omega) | exact rfl | (simp only [lns] at *; omega) | decide | (unfold inI64; decide)); conv => whnf) | decide | assumption)
     all_goals try (exfalso; omega)
     refine LoopX.rule hT (C := []) (ι := Unit) (fun _ => True) (fun _ => mkSt [(0, .d (roas r)), (1, .d (.str fr)), (2, .d (strs want)), (3, .d (bys st)), (4, .d (.int .i64 k)), (5, .d (.int .i64 left)), (7, .mp 1000000), (14, .ptr 14 0), (18, .ptr 18 0), (19, .d (.bool false)), (20, .d (.int .i64 1))] [(1000000, pmR X (sendM mvC s d (k + 1) st left p M)), (1000007, .inX X), (14, .cells 124 ((pzF X p).map .d)), (18, .cells 64 ((rdF rd0).map .d))]) (fun _ => 0) () trivial ?_ ?_
     · exact Entails.mk' [(1000000, 1000000), (1000007, 1000007), (14, 14), (18, 18)] rfl rfl ⟨lr, lr, lr, lr, lr, lr, lr, lr, lr, lr, lr, trivial⟩ ⟨rr, rr, rr, rr, trivial⟩
     rintro _ _
     conv => whnf
     repeat' (first | (refine br_intro ?_ ?_ <;> intro hb <;> (try simp only [brs] at hb) <;> conv => whnf) | (refine RegX.rule (id := 12) hT rfl [] oVPfT69_12 (by decide +kernel) ?_; conv => whnf) | omega | (refine And.intro ?_ ?_; ((try dsimp only); first | omega | (refine szA rfl ?_; omega) | (refine szB rfl ?_; omega) | (unfold inI64; omega) | exact rfl | (simp only [lns] at *; omega) | decide | (unfold inI64; decide)); conv => whnf) | decide | assumption)
     all_goals try (exfalso; omega)
     refine .ret _ ?_
     conv => whnf
     refine ⟨_, ⟨rfl, rfl⟩, ?_, rr, trivial⟩
     refine pmR_eq fun s' => ?_
     rw [sendM, hway]; rfl
   | some x =>
     have hxc := (roadO_bd hr hro).1
     rw [hro] at hway
     rw [ek, hro] at h113
     rw [← ek] at h113
     refine spec_of hT (C := []) Tryz.func69 rfl Tryz.call69 rfl rfl rfl ?_
     conv => whnf
     repeat' (first | (refine CallX.of hih [(1000000, 1000000), (1000007, 1000007)] rfl ⟨lr, lr, lr, lr, SV.le_int (by omega), lr, lr, lr, trivial⟩ ⟨rr, rr, trivial⟩ rfl rfl ?_; rintro x rout ⟨rfl, rfl⟩; refine ⟨rfl, ?_⟩; conv => whnf) | (refine CallX.exact (h113) rfl rfl ?_; rotate_right; conv => whnf) | (refine br_intro ?_ ?_ <;> intro hb <;> (try simp only [brs] at hb) <;> conv => whnf) | (refine RegX.rule (id := 12) hT rfl [] oVPfT69_12 (by decide +kernel) ?_; conv => whnf) | omega | (refine And.intro ?_ ?_; ((try dsimp only); first | omega | (refine szA rfl ?_; omega) | (refine szB rfl ?_; omega) | (unfold inI64; omega) | exact rfl | (simp only [lns] at *; omega) | decide | (unfold inI64; decide)); conv => whnf) | decide | assumption)
     all_goals try (exfalso; omega)
     refine LoopX.rule hT (C := []) (ι := Nat) (fun j => (j : Int) ≤ left ∧ j ≤ (st.getD k 0).toNat) (fun j => mkSt [(0, .d (roas r)), (1, .d (.str fr)), (2, .d (strs want)), (3, .d (bys st)), (4, .d (.int .i64 k)), (5, .d (.int .i64 left)), (7, .mp 1000000), (14, .ptr 14 0), (18, .ptr 18 0), (19, .d (.bool true)), (20, .d (.int .i64 (j + 1 : Nat)))] [(1000000, pmR X (rep (fun n M => sendM mvC s d (k + 1) (stL st k n) (left - n) (p.app [s.mv k n] (n * x.car)) M) j (sendM mvC s d (k + 1) st left p M))), (1000007, .inX X), (14, .cells 124 ((pzF X p).map .d)), (18, .cells 64 ((rdF x).map .d))]) (fun j => 30 - j) 0 ⟨hp3.1, Nat.zero_le _⟩ ?_ ?_
     · exact Entails.mk' [(1000000, 1000000), (1000007, 1000007), (14, 14), (18, 18)] rfl rfl ⟨lr, lr, lr, lr, lr, lr, lr, lr, lr, lr, lr, trivial⟩ ⟨rr, rr, rr, rr, trivial⟩
     rintro j ⟨hj1, hj2⟩
     have hj1 : (j : Int) ≤ left := hj1
     have hj2 : j ≤ (st.getD k 0).toNat := hj2
     have hbt : (st.getD k 0).toNat < 256 := (st.getD k 0).toNat_lt
     have hbt' : (st.getD (k : Int).toNat 0).toNat < 256 := (st.getD (k : Int).toNat 0).toNat_lt
     by_cases hjj : ((j + 1 : Nat) : Int) ≤ left ∧ j + 1 ≤ (st.getD k 0).toNat
     · have hmul : 0 ≤ ((j + 1 : Nat) : Int) * x.car ∧ ((j + 1 : Nat) : Int) * x.car ≤ 20 * 1000000 := ⟨Int.mul_nonneg (by omega) hxc.1, Int.mul_le_mul (by omega) hxc.2 hxc.1 (by omega)⟩
       have hroom : roomP (p.app [⟨fr, want.getD k [], ((j + 1 : Nat) : Int)⟩] (((j + 1 : Nat) : Int) * x.car)) (left - ((j + 1 : Nat) : Int)) d := hp.app (by omega) hjj.1 hxc
       have hMj : mapB (rep (fun n M => sendM mvC s d (k + 1) (stL st k n) (left - n) (p.app [s.mv k n] (n * x.car)) M) j (sendM mvC s d (k + 1) st left p M)) := by
        refine rep_b hM1 fun n M' n1 n2 hM' => ?_
        refine sendM_b hs hr d (k + 1) _ _ _ _ (by omega) ?_ hM'
        rw [hs.mv k n (by omega)]
        exact hp.app n1 (by omega) hxc
       have hwr : IntKind.u8.wrap (((st.getD (k : Int).toNat 0).toNat : Int) - IntKind.u8.wrap ((j + 1 : Nat) : Int)) = ((UInt8.ofNat ((st.getD k 0).toNat - (j + 1))).toNat : Int) := by
        rw [ek, IntWalk.u8_in ((j + 1 : Nat) : Int) (by omega), IntWalk.u8_in _ (by omega), UInt8.toNat_ofNat']
        omega
       have hih2 := ih (k + 1) (stL st k ((j + 1 : Nat) : Int)) (left - ((j + 1 : Nat) : Int)) _ _ (by omega) (by rw [stL_len]; exact hst) hroom hMj
       conv => whnf
       repeat' (first | (refine CallX.of (p97 st (by omega)) [(7, 83)] rfl ⟨lr, trivial⟩ trivial rfl rfl ?_; rintro x rout ⟨rfl, rfl⟩; refine ⟨rfl, ?_⟩; conv => whnf) | (refine CallX.of (p98 p.l (by omega)) [(7, 94)] rfl ⟨SV.le_frs, trivial⟩ trivial rfl rfl ?_; rintro x rout ⟨rfl, rfl⟩; refine ⟨rfl, ?_⟩; conv => whnf) | (refine br_intro ?_ ?_ <;> intro hb <;> (try simp only [brs] at hb) <;> conv => whnf) | (refine RegX.rule (id := 12) hT rfl [] oVPfT69_12 (by decide +kernel) ?_; conv => whnf) | omega | (refine And.intro ?_ ?_; ((try dsimp only); first | omega | (refine szA rfl ?_; omega) | (refine szB rfl ?_; omega) | (unfold inI64; omega) | exact rfl | (simp only [lns] at *; omega) | decide | (unfold inI64; decide)); conv => whnf) | decide | assumption)
       all_goals try (exfalso; omega)
       refine CallX.freeze _ _ _ _ 83 5 1 _ _ rfl rfl ?_
       refine CallX.freezeF _ _ _ _ 1000007 103 70 3 _ _ _ rfl rfl rfl rfl ?_
       refine CallX.of hih2 [(1000000, 1000000), (1000007, 1000007)] rfl ⟨lr, lr, lr, ?_, ?_, lr, SV.le_agg ⟨?_, ?_, trivial⟩, lr, trivial⟩ ⟨rr, rr, trivial⟩ rfl rfl ?_
       · exact (SV.le_putF (x := UInt8.ofNat ((st.getD k 0).toNat - (j + 1))) (fun y _ => congrArg (fun z => [DV.int IntKind.u8 z]) hwr))
       · exact SV.le_int (by omega)
       · exact (SV.le_frsx (by show _ = (p.l ++ [_]).length; simp) (rows_snocF (f := mvF) (d := mv0) (l := p.l) (x := (⟨fr, want.getD k [], ((j + 1 : Nat) : Int)⟩ : Mov)) (by rfl)))
       · exact lr
       rintro x' rout ⟨rfl, rfl⟩
       refine ⟨rfl, ?_⟩
       conv => whnf
       repeat' (first | (refine br_intro ?_ ?_ <;> intro hb <;> (try simp only [brs] at hb) <;> conv => whnf) | (refine RegX.rule (id := 12) hT rfl [] oVPfT69_12 (by decide +kernel) ?_; conv => whnf) | omega | (refine And.intro ?_ ?_; ((try dsimp only); first | omega | (refine szA rfl ?_; omega) | (refine szB rfl ?_; omega) | (unfold inI64; omega) | exact rfl | (simp only [lns] at *; omega) | decide | (unfold inI64; decide)); conv => whnf) | decide | assumption)
       all_goals try (exfalso; omega)
       refine ⟨j + 1, ⟨hjj.1, hjj.2⟩, by omega, Entails.mk' [(1000000, 1000000), (1000007, 1000007), (14, 14), (18, 18)] rfl rfl ⟨lr, lr, lr, lr, lr, lr, lr, lr, lr, lr, lr, trivial⟩ ⟨?_, rr, rr, rr, trivial⟩⟩
       refine pmR_eq fun s' => ?_
       rw [rep, hs.mv k _ (by omega)]; rfl
     · conv => whnf
       repeat' (first | (refine br_intro ?_ ?_ <;> intro hb <;> (try simp only [brs] at hb) <;> conv => whnf) | (refine RegX.rule (id := 12) hT rfl [] oVPfT69_12 (by decide +kernel) ?_; conv => whnf) | omega | (refine And.intro ?_ ?_; ((try dsimp only); first | omega | (refine szA rfl ?_; omega) | (refine szB rfl ?_; omega) | (unfold inI64; omega) | exact rfl | (simp only [lns] at *; omega) | decide | (unfold inI64; decide)); conv => whnf) | decide | assumption)
       all_goals try (exfalso; omega)
       all_goals
        refine .ret _ ?_
        conv => whnf
        refine ⟨_, ⟨rfl, rfl⟩, ?_, rr, trivial⟩
        refine pmR_eq fun s' => ?_
        rw [sendM, hway]
        have ej : (min left ((st.getD k 0).toNat : Int)).toNat = j := by omega
        simp only [Option.map_some, ej]
theorem Res.le_mapW {ag va : Bool} {ks : List KK} {zr : List DV} {has has' : List DV → Bool} {val val' : List DV → List DV} (h : ∀ key, wk ks key = true → has key = has' key ∧ (has key = true → ∀ G v, RowDen G va (val key) v → RowDen G va (val' key) v) ∧ (has key = false → val' key = zr)) :
 Res.le (.map ag va ks zr has val) (.map ag va ks zr has' val') := by
 refine ⟨rfl, fun G β w d => ?_⟩
 rintro ⟨r, es, clock, l, h1, h2, h3, h4, h5, h6⟩
 refine ⟨r, es, clock, l, h1, h2, h3, h4, h5, fun key hk => ?_⟩
 have := h6 key hk
 obtain ⟨q1, q2, q3⟩ := h key hk
 split at this
 · exact ⟨by rw [← q1]; exact this.1, q2 this.1 _ _ this.2⟩
 · exact ⟨by rw [← q1]; exact this.1, q3 this.1⟩
theorem KB_stamp {ks : List KK} {has : List DV → Bool} {clock : Nat} {kb : List (List DV × Nat)} (hk : KB ks has clock kb) {p q : List DV × Nat} (hp : p ∈ kb) (hq : q ∈ kb) : (p.2 = q.2 ↔ p.1 = q.1) := by
 obtain ⟨i, hi, rfl⟩ := List.getElem_of_mem hp
 obtain ⟨j, hj, rfl⟩ := List.getElem_of_mem hq
 have h1 : ∀ i j (hi : i < kb.length) (hj : j < kb.length), i < j → kb[i].2 < kb[j].2 := fun i j hi hj hij => by
  have := List.pairwise_iff_getElem.1 hk.ki i j (by simpa using hi) (by simpa using hj) hij
  simpa using this
 have h2 : ∀ i j (hi : i < kb.length) (hj : j < kb.length), i < j → kb[i].1 ≠ kb[j].1 := fun i j hi hj hij e => by
  have := List.pairwise_iff_getElem.1 hk.kd i j (by simpa using hi) (by simpa using hj) hij
  rw [List.getElem_map, List.getElem_map, ← e, keyEq_refl (hk.kw _ (List.getElem_mem hi))] at this
  cases this
 rcases Nat.lt_trichotomy i j with c | c | c
 · have := h1 i j hi hj c
   exact ⟨fun e => by omega, fun e => absurd e (h2 i j hi hj c)⟩
 · subst c; exact ⟨fun _ => rfl, fun _ => rfl⟩
 · have := h1 j i hj hi c
   exact ⟨fun e => by omega, fun e => absurd e.symm (h2 j i hj hi c)⟩
def bndM (J L : Nat) (C : Int) (M : PMap Mov) : Prop := ∀ σ q, M σ = some q → (q.l.length ≤ L ∧ ∀ m ∈ q.l, mvS m) ∧ (0 ≤ q.cost ∧ q.cost ≤ C) ∧ σ.length = J
theorem insM_c {J L : Nat} {C : Int} {M : PMap Mov} (h : bndM J L C M) {σ : List UInt8} {p : Pla Mov} (hp : (p.l.length ≤ L ∧ ∀ m ∈ p.l, mvS m) ∧ (0 ≤ p.cost ∧ p.cost ≤ C) ∧ σ.length = J) : bndM J L C (insM mvC M σ p) := by
 intro τ q hq
 unfold insM at hq
 split at hq
 · rename_i e
   subst e
   cases hM : M τ with
   | none => rw [hM] at hq; cases hq; exact hp
   | some old =>
     rw [hM] at hq
     simp only at hq
     split at hq
     · cases hq; exact hp
     · cases hq; exact h τ _ hM
 · exact h τ q hq
theorem rep_c {J L : Nat} {C : Int} {F : Int → PMap Mov → PMap Mov} : ∀ {n : Nat} {M : PMap Mov}, bndM J L C M → (∀ k M, 1 ≤ k → k ≤ (n : Int) → bndM J L C M → bndM J L C (F k M)) → bndM J L C (rep F n M)
 | 0, _, h, _ => h
 | n + 1, M, h, hF => by
   rw [rep]
   exact hF _ _ (by omega) (by omega) (rep_c h fun k M h1 h2 hM => hF k M h1 (by omega) hM)
theorem sendM_c {r : List Roa} {fr : List UInt8} {want : List (List UInt8)} {s : Stn Mov} (hs : SndO r fr want s) (hr : rdsE r = 0) {L : Nat} {C : Int} : ∀ (d k : Nat) (st : List UInt8) (left : Int) (p : Pla Mov) (M : PMap Mov), k + d = want.length → st.length = want.length → (p.l.length + d ≤ L ∧ ∀ m ∈ p.l, mvS m) → (0 ≤ left ∧ left ≤ 20) → 0 ≤ p.cost → p.cost + left * 1000000 ≤ C → bndM want.length L C M → bndM want.length L C (sendM mvC s d k st left p M) := by
 intro d
 induction d with
 | zero => intro k st left p M _ hst hp h1 h2 h3 hM; rw [sendM]; exact insM_c hM ⟨⟨by omega, hp.2⟩, ⟨h2, by omega⟩, hst⟩
 | succ d ih =>
   intro k st left p M hk hst hp h1 h2 h3 hM
   have h0 := ih (k + 1) st left p M (by omega) hst ⟨by omega, hp.2⟩ h1 h2 h3 hM
   rw [sendM, hs.way k (by omega)]
   cases q : roadO r fr (want.getD k []) with
   | none => exact h0
   | some x =>
     have hx := (roadO_bd hr q).1
     refine rep_c h0 fun n M' n1 n2 hM' => ?_
     have hm : 0 ≤ n * x.car := Int.mul_nonneg (by omega) hx.1
     have hm2 : n * x.car ≤ n * 1000000 := Int.mul_le_mul_of_nonneg_left hx.2 (by omega)
     have hm3 : (left - n) * 1000000 = left * 1000000 - n * 1000000 := Int.sub_mul _ _ _
     rw [hs.mv k n (by omega)]
     refine ih (k + 1) _ _ _ _ (by omega) (by rw [stL_len]; exact hst) ⟨?_, fun m hm => ?_⟩ (by omega) ?_ ?_ hM'
     · show (p.l ++ _).length + d ≤ L
       rw [List.length_append]; simp; omega
     · rcases List.mem_append.1 hm with z | z
       · exact hp.2 m z
       · have : m = ⟨fr, want.getD k [], n⟩ := by simpa using z
         subst this
         exact ⟨by show -1000000 ≤ n; omega, by show n ≤ 1000000; omega⟩
     · show 0 ≤ p.cost + n * x.car; omega
     · show p.cost + n * x.car + (left - n) * 1000000 ≤ C; omega
def filK (p : Nat → Bool) (i : Nat) : List Nat := (List.range i).filter p
theorem filK_succ (p : Nat → Bool) (i : Nat) : filK p (i + 1) = filK p i ++ (if p i = true then [i] else []) := by
 unfold filK
 rw [List.range_succ, List.filter_append]
 by_cases h : p i = true
 · rw [if_pos h, List.filter_cons_of_pos h]; rfl
 · rw [if_neg h, List.filter_cons_of_neg h]; rfl
theorem filK_len (p : Nat → Bool) (i : Nat) : (filK p i).length ≤ i := by
 have := List.length_filter_le p (List.range i)
 rw [List.length_range] at this; exact this
theorem filK_at (p : Nat → Bool) {i : Nat} (hp : p i = true) : ∀ {N : Nat}, i < N → (filK p N)[(filK p i).length]? = some i
 | 0, h => absurd h (Nat.not_lt_zero _)
 | N + 1, h => by
   rw [filK_succ]
   by_cases e : i = N
   · subst e
     rw [if_pos hp, List.getElem?_append_right (Nat.le_refl _)]; simp
   · have := filK_at p hp (N := N) (by omega)
     rw [List.getElem?_append_left (List.getElem?_eq_some_iff.1 this).1]; exact this
def srcP (n : List Ned) (i : Nat) : Bool := decide (0 < manyP n i)
def dstP (n : List Ned) (i : Nat) : Bool := decide (manyP n i < 0)
def wanS (n : List Ned) (i : Nat) : List (List UInt8) := (filK (dstP n) i).map fun k => (n.getD k nd0).st
def byS (n : List Ned) (i : Nat) : List UInt8 := (filK (dstP n) i).map fun k => UInt8.ofNat (0 - manyP n k).toNat
theorem nsN_at {n : List Ned} {i : Nat} (hi : i < n.length) (h : srcP n i = true) : nsN n (filK (srcP n) i).length = i := by
 have := filK_at (srcP n) h hi
 unfold nsN
 rw [List.getD_eq_getElem?_getD, show srcL n = filK (srcP n) n.length from rfl, this]; rfl
theorem sndO_at {n : List Ned} {r : List Roa} {i : Nat} (hi : i < n.length) (h : srcP n i = true) : SndO r (n.getD i nd0).st (wanS n n.length) (stnN n r (filK (srcP n) i).length) := by
 have e : ∀ k, k < (wanS n n.length).length → (wanS n n.length).getD k [] = (n.getD (nwN n k) nd0).st := fun k hk => by
  unfold wanS at hk ⊢
  rw [List.length_map] at hk
  unfold nwN
  have e2 : (dstL n).getD k 0 = (filK (dstP n) n.length)[k] := by rw [show dstL n = filK (dstP n) n.length from rfl, List.getD_eq_getElem?_getD, List.getElem?_eq_getElem hk]; rfl
  rw [e2, List.getD_eq_getElem?_getD, List.getElem?_map, List.getElem?_eq_getElem hk]; rfl
 refine ⟨fun k hk => ?_, fun k v hk => ?_⟩
 · show wayO n r (nsN n _) (nwN n k) = _
   rw [nsN_at hi h, e k hk]; rfl
 · show Mov.mk (n.getD (nsN n _) nd0).st (n.getD (nwN n k) nd0).st v = _
   rw [nsN_at hi h, e k hk]
def plL : Option (Pla Mov) → List Mov
 | none => []
 | some q => q.l
theorem plan_nil {X : Nat → Prop} {G : Hp} {v : Value} (h : RowDen G true [.nilsl, .int .i64 0] v) : RowDen G true (pzF X ⟨[], 0⟩) v := by
 obtain ⟨vs, h1, h2, h3⟩ := h
 refine ⟨vs, h1, h2, fun i x u hx hu => ?_⟩
 match i, hx with
 | 0, hx =>
   have := h3 0 .nilsl u rfl hu
   cases this
   cases hx
   exact .frsnil _ _ _ _
 | 1, hx => cases hx; exact h3 1 _ u rfl hu
theorem pmR_one {X : Nat → Prop} (σ0 : List UInt8) : Res.le (.map false true [.str] [.nilsl, .int .i64 0] (fun q => keyEq q [.str σ0] || false) (fun q => bif keyEq q [.str σ0] then [.nilsl, .int .i64 0] else [.nilsl, .int .i64 0])) (pmR X fun τ => if τ = σ0 then some ⟨[], 0⟩ else none) := Res.le_mapW fun K hK => by
 obtain ⟨s, rfl⟩ := wk_str hK
 rw [keyEq_str]
 unfold pmH pmV
 show (decide (s = σ0) || false) = (if s = σ0 then some (⟨[], 0⟩ : Pla Mov) else none).isSome ∧ _ ∧ _
 by_cases q : s = σ0
 · rw [decide_eq_true q, if_pos q]
   refine ⟨rfl, fun _ G v h => ?_, fun h => (by cases h)⟩
   show RowDen G true (pzV X (if s = σ0 then some ⟨[], 0⟩ else none)) v
   rw [if_pos q]; exact plan_nil h
 · rw [decide_eq_false q, if_neg q]
   refine ⟨rfl, fun h => (by cases h), fun _ => ?_⟩
   show pzV X (if s = σ0 then some ⟨[], 0⟩ else none) = _
   rw [if_neg q]; rfl
theorem runPM_snoc (s : Stn Mov) (J : Nat) (E : List (List UInt8 × Pla Mov)) (e : List UInt8 × Pla Mov) (M : PMap Mov) : runPM mvC s J (E ++ [e]) M = sendM mvC s J 0 e.1 s.many e.2 (runPM mvC s J E M) := by
 unfold runPM; rw [List.foldl_append]; rfl
end Go.Proofs.YteehenjdddlnnaaGreatDoor
