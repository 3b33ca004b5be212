/- FollowedStay is proved: for every input the law returns true, and its argument reads afterwards as it read before. Conditions: those of the given row alone. -/
import Derived.Test.YtophabkpfpbadaaGreatDoorFsConOne
import Derived.Shelf.Spec.SlicesGrow
import Derived.Test.YtophabkpfpbadaaGreatDoorFsEngTwo
import Derived.Shelf.Small.Strs
import Derived.Test.YtophabkpfpbadaaGreatDoorProg
import Derived.Test.YtophabkpfpbadaaGreatDoorFsEngMap
set_option linter.unusedVariables false
set_option linter.unusedSimpArgs false
set_option maxRecDepth 20000
namespace Go.Proofs.YtophabkpfpbadaaGreatDoor
open Go Go.Eng
def itU (l : List Cls) : Nat → List UInt8 → List UInt8
 | 0, k => k
 | n + 1, k => itU l n (upC l k)
theorem itU_add (l : List Cls) : ∀ (a b : Nat) (k : List UInt8), itU l (a + b) k = itU l b (itU l a k) := by
 intro a
 induction a with
 | zero => intro b k; rw [Nat.zero_add]; rfl
 | succ a ih => intro b k; rw [show a + 1 + b = (a + b) + 1 by omega, itU, ih, itU]
theorem abv_mem (l : List Cls) : ∀ (n : Nat) (k v : List UInt8), v ∈ abv l n k ↔ ∃ j, j < n ∧ itU l (j + 1) k = v ∧ ∀ i, i ≤ j → itU l (i + 1) k ≠ [] := by
 intro n
 induction n with
 | zero => intro k v; simp [abv]
 | succ n ih =>
   intro k v; rw [abv]
   by_cases h : upC l k = []
   · rw [if_pos h]; constructor
     · intro q; cases q
     · rintro ⟨j, _, _, h3⟩; exact absurd h (h3 0 (by omega))
   · rw [if_neg h, List.mem_cons, ih]; constructor
     · rintro (rfl | ⟨j, h1, h2, h3⟩)
       · exact ⟨0, by omega, rfl, fun i hi => by obtain rfl : i = 0 := by omega
                                                 exact h⟩
       · refine ⟨j + 1, by omega, h2, fun i hi => ?_⟩
         cases i with
         | zero => exact h
         | succ i => exact h3 i (by omega)
     · rintro ⟨j, h1, h2, h3⟩
       cases j with
       | zero => exact .inl h2.symm
       | succ j => exact .inr ⟨j, by omega, h2, fun i hi => h3 (i + 1) (by omega)⟩
theorem nodupG {α : Type} {l m : List α} (h : l.Nodup) (hs : ∀ x ∈ l, x ∈ m) : l.length ≤ m.length := by
 induction l generalizing m with
 | nil => simp
 | cons x l ih =>
   rw [List.nodup_cons] at h; obtain ⟨a, b, rfl⟩ := List.append_of_mem (hs x (by simp))
   have := ih (m := a ++ b) h.2 (fun y hy => by
    have q := hs y (by simp [hy]); simp only [List.mem_append, List.mem_cons] at q ⊢; rcases q with q | q | q
    · exact .inl q
    · subst q; exact absurd hy h.1
    · exact .inr q)
   simp at this ⊢; omega
theorem clIx_mem {l : List Cls} {k : List UInt8} (h : 0 ≤ clIx l k) : k ∈ l.map (·.key) := by
 rw [← clIx_at h]; exact List.mem_map_of_mem (getD_mem (by have := (clIx_bd l k).2; omega))
theorem itU_in {l : List Cls} (hu : upsOk l) {k : List UInt8} (hk : 0 ≤ clIx l k) : ∀ (j : Nat), (∀ i, i < j → itU l (i + 1) k ≠ []) → 0 ≤ clIx l (itU l j k) := by
 intro j
 induction j with
 | zero => intro _; exact hk
 | succ j ih =>
   intro h; have h1 := ih (fun i hi => h i (by omega)); have h2 := h j (by omega); have e : itU l (j + 1) k = upC l (itU l j k) := by rw [itU_add]; rfl
   rw [e] at h2 ⊢; exact hu _ (getD_mem (by have := (clIx_bd l (itU l j k)).2; omega)) h2
theorem loop_eq {l : List Cls} (hu : upsOk l) {k : List UInt8} (hk : 0 ≤ clIx l k) : k ∈ abv l (l.length + 1) k ↔ k ∈ abv l l.length k := by
 rw [abv_mem, abv_mem]; constructor
 · rintro ⟨j, h1, h2, h3⟩
   by_cases hj : j < l.length
   · exact ⟨j, hj, h2, h3⟩
   · have hj : j = l.length := by omega
     subst hj
     by_cases hex : ∃ j', j' < l.length ∧ itU l (j' + 1) k = k
     · obtain ⟨j', q1, q2⟩ := hex; exact ⟨j', q1, q2, fun i hi => h3 i (by omega)⟩
     · exfalso
       have hnd : ((List.range (l.length + 1)).map fun j => itU l j k).Nodup := by
        rw [List.nodup_iff_pairwise_ne, List.pairwise_map]; refine List.Pairwise.imp_of_mem ?_ List.pairwise_lt_range; intro a b ha hb hab he; rw [List.mem_range] at ha hb; refine hex ⟨a + (l.length + 1 - b) - 1, by omega, ?_⟩; rw [show a + (l.length + 1 - b) - 1 + 1 = a + (l.length + 1 - b) by omega, itU_add, he, ← itU_add, show b + (l.length + 1 - b) = l.length + 1 by omega]; exact h2
       have := nodupG (m := l.map (·.key)) hnd (fun x hx => by
        obtain ⟨j, hj, rfl⟩ := List.mem_map.1 hx; rw [List.mem_range] at hj
        exact clIx_mem (itU_in hu hk j (fun i hi => h3 i (by omega))))
       simp at this; omega
 · rintro ⟨j, h1, h2, h3⟩; exact ⟨j, by omega, h2, h3⟩
theorem clIx_pos {l : List Cls} {c : Cls} (h : c ∈ l) : 0 ≤ clIx l c.key := by
 obtain ⟨j, hj, rfl⟩ := mem_getD (d := cls0) h; exact ixF_pos hj (by simp)
def clsE1 (l : List Cls) (i : Nat) : Int :=
 if isKeyB (l.getD i cls0).key = false then 5 else if 0 < i ∧ strLe (l.getD i cls0).key (l.getD (i - 1) cls0).key = true then 7
 else if (l.getD i cls0).up ≠ [] ∧ isKeyB (l.getD i cls0).up = false then 5 else 0
def clsE2 (l : List Cls) (i : Nat) : Int := if (l.getD i cls0).up ≠ [] ∧ clIx l (l.getD i cls0).up < 0 then 8 else 0
def clsE3 (l : List Cls) (i : Nat) : Int := if (l.getD i cls0).key ∈ abv l l.length (l.getD i cls0).key then 14 else 0
def clssE (l : List Cls) : Int := if 30 < l.length then 2 else firstE [firstAt (clsE1 l) l.length, firstAt (clsE2 l) l.length, firstAt (clsE3 l) l.length]
def clsOk (l : List Cls) : Prop := l.length ≤ 2^20 ∧ ∀ c ∈ l, c.key.length ≤ 2^40 ∧ c.up.length ≤ 2^40
def pltCmp (a b : Plt) : Int := firstE [cmpI a.frm b.frm, cmpS a.veh b.veh, cmpS a.plt b.plt]
def pltC (p : Plt) : Res := .cells 289 ((pltF p).map .d)
def twP (p o : Plt) : Bool := decide (o.frm = p.frm) && (o.veh == p.veh || o.plt == p.plt)
def vehS (l : List Veh) : Prop := ∀ i j, i < j → j < l.length → Op.bytesLess (l.getD i veh0).key (l.getD j veh0).key = true
theorem z287 (v : Veh) (key : List UInt8) : FSpec Tryz.prog 176 [.agg ((vehF v).map .d), .d (.str key)] [] (fun y r => y = .d (.int .i64 (cmpS v.key key)) ∧ r = []) := by
 refine spec_of hT (C := []) Tryz.func176 rfl Tryz.call176 rfl rfl rfl ?_; conv => whnf
 repeat' (first | (refine CallX.exact (s184 _ _) rfl rfl ?_; rotate_right; conv => whnf) | ((first | (refine br_intro ?_ ?_ <;> intro hb <;> try simp only [brs] at hb) | omega | refine sAx ?_ | decide | assumption) <;> conv => whnf))
 refine .ret _ ?_; conv => whnf
 refine ⟨[], ⟨?_, rfl⟩, trivial⟩; conv => lhs; whnf
theorem cmpS_neg (a b : List UInt8) : cmpS a b < 0 ↔ Op.bytesLess a b = true := by unfold cmpS; grind
theorem cmpS_zeroF (a b : List UInt8) : cmpS a b = 0 ↔ a = b := by
 unfold cmpS; grind [less_tri, less_irr]
theorem half2 (lo hi : Nat) (h : hi ≤ 2^20) (hl : lo ≤ hi) : IntKind.wrap .u64 ((lo : Int) + hi) / 2 = (((lo + hi) / 2 : Nat) : Int) := by
 unfold IntKind.wrap; simp [IntKind.signed, IntKind.bits]; omega
theorem vehS_lt {l : List Veh} (hs : vehS l) {key : List UInt8} {i j : Nat} (hij : i ≤ j) (hj : j < l.length) (h : Op.bytesLess (l.getD j veh0).key key = true) : Op.bytesLess (l.getD i veh0).key key = true := by
 rcases Nat.lt_or_ge i j with q | q
 · exact less_trans (hs i j q hj) h
 · obtain rfl : i = j := by omega
   exact h
theorem veIx_hit {l : List Veh} (hs : vehS l) {i : Nat} (hi : i < l.length) : veIx l (l.getD i veh0).key = i := by
 refine ixF_hit hi (fun j hj => ?_) (by simp); rw [beq_eq_false_iff_ne]; intro e; have := hs j i hj hi; rw [e, less_irr] at this; cases this
theorem veIx_no {l : List Veh} {key : List UInt8} (h : ∀ i, i < l.length → (l.getD i veh0).key ≠ key) : veIx l key = -1 :=
 ixF_none fun j hj => beq_eq_false_iff_ne.2 (h j hj)
theorem z286 (l : List Veh) (hl : l.length ≤ 2^20) (hs : vehS l) (key : List UInt8) : FSpec Tryz.prog 175 [.d (vehs l), .d (.str key), .fn 176 []] []
 (fun y r => (∃ j : Nat, ∃ b : Bool, y = .tup [.d (.int .i64 j), .d (.bool b)] ∧ veIx l key = if b = true then (j : Int) else -1) ∧ r = []) := by
 refine spec_of hT (C := []) Tryz.func175 rfl Tryz.call175 rfl rfl rfl ?_; conv => whnf
 refine LoopX.rule hT (C := []) (ι := Nat × Nat) (fun (lo, hi) => (lo ≤ hi ∧ hi ≤ l.length) ∧ (∀ j, j < lo → Op.bytesLess (l.getD j veh0).key key = true) ∧ ∀ j, hi ≤ j → j < l.length → Op.bytesLess (l.getD j veh0).key key = false)
  (fun (lo, hi) => mkSt [(0, .d (vehs l)), (1, .d (.str key)), (2, .fn 176 []), (8, .d (.int .i64 l.length)), (9, .d (.int .i64 lo)), (10, .d (.int .i64 hi))] []) (fun (lo, hi) => hi - lo) (0, l.length)
  ⟨⟨by simp, by simp⟩, fun j hj => by omega, fun j h1 h2 => by omega⟩ (by exact eAx []) ?_
 rintro ⟨lo, hi⟩ ⟨⟨p1, p2⟩, p3, p4⟩; have p1 : lo ≤ hi := p1; have p2 : hi ≤ l.length := p2; have p3 : ∀ j, j < lo → Op.bytesLess (l.getD j veh0).key key = true := p3; have p4 : ∀ j, hi ≤ j → j < l.length → Op.bytesLess (l.getD j veh0).key key = false := p4; have hh := half2 lo hi (by omega) p1; obtain ⟨M, hM⟩ : ∃ M, M = (lo + hi) / 2 := ⟨_, rfl⟩; rw [← hM] at hh; have e1 : ((M : Nat) : Int).toNat = M := Int.toNat_natCast M; have e2 : ((lo : Nat) : Int).toNat = lo := Int.toNat_natCast lo; conv => whnf
 repeat' (first | (refine ⟨rfl, ?_⟩; conv => whnf) | (rw [hh]; conv => whnf) | (refine CallX.exact (z287 (l.getD (M : Int).toNat veh0) key) rfl rfl ?_; rotate_right; conv => whnf) | (refine CallX.exact (z287 (l.getD (lo : Int).toNat veh0) key) rfl rfl ?_; rotate_right; conv => whnf) | ((first | (refine br_intro ?_ ?_ <;> intro hb <;> try simp only [brs] at hb) | omega | refine sAx ?_ | decide | assumption) <;> conv => whnf))
 · have hb1 := (cmpS_neg _ _).1 hb; exact ⟨(M + 1, hi), ⟨⟨by omega, p2⟩, fun j hj => vehS_lt hs (show j ≤ M by omega) (by omega) hb1, p4⟩, by show hi - (M + 1) < hi - lo; omega, (by exact eAx [])⟩
 · have hb1 : Op.bytesLess (l.getD M veh0).key key = false := by
    rw [← Bool.not_eq_true, ← cmpS_neg]; omega
   refine ⟨(lo, M), ⟨⟨by omega, by omega⟩, p3, fun j h1 h2 => ?_⟩, by show M - lo < hi - lo; omega, (by exact eAx [])⟩; rw [← Bool.not_eq_true]; intro q; rw [vehS_lt hs h1 h2 q] at hb1; cases hb1
 · refine .ret _ ?_; conv => whnf
   refine ⟨[], ⟨⟨lo, decide (cmpS (l.getD lo veh0).key key = 0), rfl, ?_⟩, rfl⟩, trivial⟩
   by_cases q : (l.getD lo veh0).key = key
   · rw [if_pos (by rw [decide_eq_true_eq, cmpS_zeroF]; exact q), ← q]; exact veIx_hit hs (by omega)
   · rw [if_neg (by rw [decide_eq_true_eq, cmpS_zeroF]; exact q)]; have h0 := p4 lo (by omega) (by omega); have h1 := less_tri _ _ h0 q; refine veIx_no fun i hi2 e => ?_
     rcases Nat.lt_trichotomy i lo with r | r | r
     · have := p3 i r; rw [e, less_irr] at this; cases this
     · subst r; exact q e
     · have := less_trans h1 (hs lo i r hi2); rw [e, less_irr] at this; cases this
 · refine .ret _ ?_; conv => whnf
   refine ⟨[], ⟨⟨lo, false, rfl, ?_⟩, rfl⟩, trivial⟩; rw [if_neg (by simp)]; refine veIx_no fun i hi2 e => ?_
   have := p3 i (by omega); rw [e, less_irr] at this; cases this
def oQFlE130_8 : OL := [(0, []), (1, []), (2, []), (3, []), (4, []), (5, [3, 4]), (6, [3, 4, 5]), (7, [3, 4, 5]), (8, [3, 4]), (9, [3, 4]), (10, [3, 4]), (11, []), (12, []), (13, [])]
def oQFlE130_22 : OL := [(0, []), (1, [0]), (2, [0]), (4, [0, 1, 2]), (5, [0, 1, 2]), (3, [4, 5]), (6, [])]
set_option maxHeartbeats 2000000 in
theorem z175 (l : List Cls) (hk : clsOk l) : FSpec Tryz.prog 130 [.d (clss l)] [] (fun x r => x = .d (.int .i64 (clssE l)) ∧ r = []) := by
 have hlen := hk.1; refine spec_of hT (C := []) Tryz.func130 rfl Tryz.call130 rfl rfl rfl ?_; conv => whnf
 refine br_intro (fun h0 => ?_) (fun h0 => ?_)
 · simp at h0; conv => whnf
   refine .ret _ ?_; conv => whnf
   refine ⟨[], ⟨?_, rfl⟩, trivial⟩; conv => lhs; whnf
   unfold clssE; rw [if_pos (by omega)]
 simp at h0; conv => whnf
 refine LoopX.rule hT (C := []) (ι := Nat) (fun i => i ≤ l.length ∧ ∀ j, j < i → clsE1 l j = 0) (fun i => mkSt [(0, .d (clss l)), (12, .d (clss l)), (13, .d (.int .i64 l.length)), (14, .d (.int .i64 i))] []) (fun i => l.length - i) 0 ⟨by omega, by omega⟩ (by exact eAx []) ?_; rintro i ⟨p1, p2⟩; have hx : (i : Int) < l.length → (l.getD (i : Int).toNat cls0).key.length ≤ 2^40 ∧ (l.getD (i : Int).toNat cls0).up.length ≤ 2^40 := fun hi => hk.2 _ (getD_mem (by omega))
 have e1 : (i : Int).toNat = i := Int.toNat_natCast i
 have hbad : ∀ e : Int, i < l.length → e ≠ 0 → clsE1 l i = e → clssE l = e := fun e h h1 h2 => by
  unfold clssE; rw [if_neg (by omega), firstAt_eq h p2 h1 h2, firstE, if_neg h1]
 rcases Nat.lt_or_ge i l.length with hi | hi
 · conv => whnf
   repeat' (first | (refine CallX.exact (s108 _ (hx (by omega)).1) rfl rfl ?_; rotate_right; conv => whnf) | (refine CallX.exact (s108 _ (hx (by omega)).2) rfl rfl ?_; rotate_right; conv => whnf) | ((first | (refine br_intro ?_ ?_ <;> intro hb <;> try simp only [brs] at hb) | refine rAx hT 8 oQFlE130_8 ?_ | refine rAx hT 22 oQFlE130_22 ?_ | omega | refine sAx ?_ | decide | assumption) <;> conv => whnf))
   all_goals try (exfalso; omega)
   all_goals first
    | (refine ⟨i + 1, ⟨by omega, first_step p2 (by clear p2 hbad hk hx; simp only [e1, toNat_pred] at *; unfold clsE1 strLe; grind)⟩, by omega, (by exact eAx [])⟩)
    | (refine .ret _ ?_
       conv => whnf
       refine ⟨[], ⟨?_, rfl⟩, trivial⟩; conv => lhs; whnf
       congr 2
       exact (hbad _ (by omega) (by decide) (by clear p2 hbad hk hx; simp only [e1, toNat_pred] at *; unfold clsE1 strLe; grind)).symm)
 have hil : i = l.length := by omega
 subst hil; have P1 := firstAt_zero p2; clear hbad hx p2; conv => whnf
 repeat' (first | ((first | (refine br_intro ?_ ?_ <;> intro hb <;> try simp only [brs] at hb) | refine rAx hT 8 oQFlE130_8 ?_ | refine rAx hT 22 oQFlE130_22 ?_ | omega | refine sAx ?_ | decide | assumption) <;> conv => whnf))
 all_goals try (exfalso; omega)
 refine LoopX.rule hT (C := []) (ι := Nat) (fun i => i ≤ l.length ∧ ∀ j, j < i → clsE2 l j = 0) (fun i => mkSt [(0, .d (clss l)), (49, .d (clss l)), (50, .d (.int .i64 l.length)), (51, .d (.int .i64 i))] []) (fun i => l.length - i) 0 ⟨by omega, by omega⟩ (by exact eAx []) ?_; rintro i ⟨p1, p2⟩; have e1 : (i : Int).toNat = i := Int.toNat_natCast i
 have hbad : ∀ e : Int, i < l.length → e ≠ 0 → clsE2 l i = e → clssE l = e := fun e h h1 h2 => by
  unfold clssE; rw [if_neg (by omega), firstE, if_pos P1, firstE, firstAt_eq h p2 h1 h2, if_neg h1]
 rcases Nat.lt_or_ge i l.length with hi | hi
 · conv => whnf
   repeat' (first | (refine CallX.exact (z176 l (by omega) _) rfl rfl ?_; rotate_right; conv => whnf) | ((first | (refine br_intro ?_ ?_ <;> intro hb <;> try simp only [brs] at hb) | refine rAx hT 8 oQFlE130_8 ?_ | refine rAx hT 22 oQFlE130_22 ?_ | omega | refine sAx ?_ | decide | assumption) <;> conv => whnf))
   all_goals try (exfalso; omega)
   all_goals first
    | (refine ⟨i + 1, ⟨by omega, first_step p2 (by clear p2 hbad hk; simp only [e1] at *; unfold clsE2; grind)⟩, by omega, (by exact eAx [])⟩)
    | (refine .ret _ ?_
       conv => whnf
       refine ⟨[], ⟨?_, rfl⟩, trivial⟩; conv => lhs; whnf
       congr 2
       exact (hbad _ (by omega) (by decide) (by clear p2 hbad hk; simp only [e1] at *; unfold clsE2; grind)).symm)
 have hil : i = l.length := by omega
 subst hil; have P2 := firstAt_zero p2
 have hu : upsOk l := fun c hc hn => by
  obtain ⟨j, hj, rfl⟩ := mem_getD (d := cls0) hc; have := p2 j hj; unfold clsE2 at this; rcases Int.lt_or_le (clIx l (l.getD j cls0).up) 0 with q | q
  · rw [if_pos ⟨hn, q⟩] at this; cases this
  · exact q
 clear hbad p2; conv => whnf
 repeat' (first | ((first | (refine br_intro ?_ ?_ <;> intro hb <;> try simp only [brs] at hb) | refine rAx hT 8 oQFlE130_8 ?_ | refine rAx hT 22 oQFlE130_22 ?_ | omega | refine sAx ?_ | decide | assumption) <;> conv => whnf))
 all_goals try (exfalso; omega)
 refine LoopX.rule hT (C := []) (ι := Nat) (fun i => i ≤ l.length ∧ ∀ j, j < i → clsE3 l j = 0) (fun i => mkSt [(0, .d (clss l)), (66, .d (clss l)), (67, .d (.int .i64 l.length)), (68, .d (.int .i64 i))] []) (fun i => l.length - i) 0 ⟨by omega, by omega⟩ (by exact eAx []) ?_; rintro i ⟨p1, p2⟩; have e1 : (i : Int).toNat = i := Int.toNat_natCast i
 have hbad : ∀ e : Int, i < l.length → e ≠ 0 → clsE3 l i = e → clssE l = e := fun e h h1 h2 => by
  unfold clssE; rw [if_neg (by omega), firstE, if_pos P1, firstE, if_pos P2, firstE, firstAt_eq h p2 h1 h2, if_neg h1]
 rcases Nat.lt_or_ge i l.length with hi | hi
 · have hin := clIx_pos (l := l) (c := l.getD (i : Int).toNat cls0) (getD_mem (by omega)); have hal := abv_len l l.length (l.getD (i : Int).toNat cls0).key; have hlo := loop_eq hu hin; conv => whnf
   repeat' (first | (refine CallX.exact (z241 l hlen hu _ hin) rfl rfl ?_; rotate_right; conv => whnf) | (refine CallX.exact (z153 _ (by omega) _) rfl rfl ?_; rotate_right; conv => whnf) | ((first | (refine br_intro ?_ ?_ <;> intro hb <;> try simp only [brs] at hb) | refine rAx hT 8 oQFlE130_8 ?_ | refine rAx hT 22 oQFlE130_22 ?_ | omega | refine sAx ?_ | decide | assumption) <;> conv => whnf))
   all_goals try (exfalso; omega)
   all_goals first
    | (refine ⟨i + 1, ⟨by omega, first_step p2 (by clear p2 hbad hk; simp only [e1] at *; unfold clsE3; grind)⟩, by omega, (by exact eAx [])⟩)
    | (refine .ret _ ?_
       conv => whnf
       refine ⟨[], ⟨?_, rfl⟩, trivial⟩; conv => lhs; whnf
       congr 2
       exact (hbad _ (by omega) (by decide) (by clear p2 hbad hk; simp only [e1] at *; unfold clsE3; grind)).symm)
 have hil : i = l.length := by omega
 subst hil; have P3 := firstAt_zero p2; conv => whnf
 repeat' (first | ((first | (refine br_intro ?_ ?_ <;> intro hb <;> try simp only [brs] at hb) | refine rAx hT 8 oQFlE130_8 ?_ | refine rAx hT 22 oQFlE130_22 ?_ | omega | refine sAx ?_ | decide | assumption) <;> conv => whnf))
 all_goals try (exfalso; omega)
 refine .ret _ ?_; conv => whnf
 refine ⟨[], ⟨?_, rfl⟩, trivial⟩; conv => lhs; whnf
 unfold clssE; rw [if_neg (by omega), firstE, if_pos P1, firstE, if_pos P2, firstE, if_pos P3]; rfl
def oQFlG129_8 : OL := [(0, []), (1, []), (2, []), (3, []), (4, []), (5, [3, 4]), (6, [3, 4, 5]), (7, [3, 4, 5]), (8, [3, 4]), (9, [3, 4]), (10, [3, 4]), (11, []), (12, []), (13, [])]
def okW (s : Sta) (k : Nat) : Bool := decide ((0 ≤ s.h (2 * k) ∧ s.h (2 * k) ≤ s.h (2 * k + 1)) ∧ s.h (2 * k + 1) ≤ 1440)
def hrs (s : Sta) : Bool := (List.range 7).all (okW s)
theorem hrs_yes {s : Sta} (h : ∀ j, j < 7 → okW s j = true) : hrs s = true := by
 unfold hrs; rw [List.all_eq_true]; intro j hj; exact h j (List.mem_range.1 hj)
theorem hrs_no {s : Sta} {j : Nat} (hj : j < 7) (h : okW s j = false) : hrs s = false := by
 unfold hrs; rw [List.all_eq_false]; exact ⟨j, List.mem_range.2 hj, by simp [h]⟩
def stnE (l : List Sta) (i : Nat) : Int :=
 if isKeyB (l.getD i sta0).key = false then 5 else if 0 < i ∧ strLe (l.getD i sta0).key (l.getD (i - 1) sta0).key = true then 7 else if hrs (l.getD i sta0) = false then 1 else 0
def stasE (l : List Sta) : Int := if 50 < l.length then 2 else firstAt (stnE l) l.length
def stasOk (l : List Sta) : Prop := l.length ≤ 2^20 ∧ ∀ c ∈ l, c.key.length ≤ 2^40
set_option maxHeartbeats 4000000 in
theorem z174 (l : List Sta) (hk : stasOk l) : FSpec Tryz.prog 129 [.d (stas l)] [] (fun x r => x = .d (.int .i64 (stasE l)) ∧ r = []) := by
 have hlen := hk.1; refine spec_of hT (C := []) Tryz.func129 rfl Tryz.call129 rfl rfl rfl ?_; conv => whnf
 refine br_intro (fun h0 => ?_) (fun h0 => ?_)
 · simp at h0; conv => whnf
   refine .ret _ ?_; conv => whnf
   refine ⟨[], ⟨?_, rfl⟩, trivial⟩; conv => lhs; whnf
   unfold stasE; rw [if_pos (by omega)]
 simp at h0; conv => whnf
 refine LoopX.rule hT (C := []) (ι := Nat) (fun i => i ≤ l.length ∧ ∀ j, j < i → stnE l j = 0) (fun i => mkSt [(0, .d (stas l)), (10, .d (stas l)), (11, .d (.int .i64 l.length)), (12, .d (.int .i64 i))] []) (fun i => l.length - i) 0 ⟨by omega, by omega⟩ (by exact eAx []) ?_; rintro i ⟨p1, p2⟩; have hx : (i : Int) < l.length → (l.getD (i : Int).toNat sta0).key.length ≤ 2^40 := fun hi => hk.2 _ (getD_mem (by omega))
 have e1 : (i : Int).toNat = i := Int.toNat_natCast i
 have hbad : ∀ e : Int, i < l.length → e ≠ 0 → stnE l i = e → stasE l = e := fun e h h1 h2 => by
  unfold stasE; rw [if_neg (by omega)]; exact firstAt_eq h p2 h1 h2
 rcases Nat.lt_or_ge i l.length with hi | hi
 · obtain ⟨s, hs⟩ : ∃ s, s = l.getD (i : Int).toNat sta0 := ⟨_, rfl⟩; conv => whnf
   repeat' (first | (refine CallX.exact (s108 _ (hx (by omega))) rfl rfl ?_; rotate_right; conv => whnf) | ((first | (refine br_intro ?_ ?_ <;> intro hb <;> try simp only [brs] at hb) | refine rAx hT 8 oQFlG129_8 ?_ | omega | refine sAx ?_ | decide | assumption) <;> conv => whnf))
   all_goals try (exfalso; omega)
   all_goals first
    | (refine .ret _ ?_
       conv => whnf
       refine ⟨[], ⟨?_, rfl⟩, trivial⟩; conv => lhs; whnf
       congr 2
       exact (hbad _ (by omega) (by decide) (by clear p2 hbad hk hx; simp only [e1, toNat_pred] at *; unfold stnE strLe; grind)).symm)
    | (have hok : stnE l i = if hrs s = false then 1 else 0 := by
        clear p2 hbad hk hx; simp only [e1, toNat_pred] at *; subst hs; unfold stnE strLe; grind
       refine LoopX.rule hT (C := []) (ι := Nat) (fun k => k ≤ 7 ∧ ∀ j, j < k → okW s j = true) (fun k => mkSt [(0, .d (stas l)), (10, .d (stas l)), (11, .d (.int .i64 l.length)), (12, .d (.int .i64 i)), (37, .agg (((staF s).drop 1).map .d)), (38, .d (.int .i64 k))] []) (fun k => 7 - k) 0 ⟨by omega, by omega⟩ (by rw [hs]; exact (by exact eAx [])) ?_; rintro k ⟨q1, q2⟩; have hkk : k = 7 ∨ k = 0 ∨ k = 1 ∨ k = 2 ∨ k = 3 ∨ k = 4 ∨ k = 5 ∨ k = 6 := by omega
       rcases hkk with rfl | rfl | rfl | rfl | rfl | rfl | rfl | rfl
       · rw [hrs_yes q2] at hok; conv => whnf
         repeat' (first | ((first | (refine br_intro ?_ ?_ <;> intro hb <;> try simp only [brs] at hb) | refine rAx hT 8 oQFlG129_8 ?_ | omega | refine sAx ?_ | decide | assumption) <;> conv => whnf))
         exact ⟨i + 1, ⟨by omega, first_step p2 (by rw [hok]; rfl)⟩, by omega, (by exact eAx [])⟩
       · conv => whnf
         repeat' (first | (refine CallX.exact (s119 _ _ _) rfl rfl ?_; rotate_right; conv => whnf) | ((first | (refine br_intro ?_ ?_ <;> intro hb <;> try simp only [brs] at hb) | refine rAx hT 8 oQFlG129_8 ?_ | omega | refine sAx ?_ | decide | assumption) <;> conv => whnf))
         all_goals first
          | (refine .ret _ ?_
             conv => whnf
             refine ⟨[], ⟨?_, rfl⟩, trivial⟩; conv => lhs; whnf
             congr 2
             exact (hbad _ (by omega) (by decide) (by rw [hok, hrs_no (j := 0) (by omega) (by show decide ((0 ≤ s.h 0 ∧ s.h 0 ≤ s.h 1) ∧ s.h 1 ≤ 1440) = false; rw [decide_eq_false_iff_not]; omega)]; rfl)).symm)
          | exact ⟨1, ⟨by omega, all_step (p := fun j => okW s j = true) (i := 0) q2 (by show decide ((0 ≤ s.h 0 ∧ s.h 0 ≤ s.h 1) ∧ s.h 1 ≤ 1440) = true; rw [decide_eq_true_eq]; omega)⟩, by omega, (by exact eAx [])⟩
       · conv => whnf
         repeat' (first | (refine CallX.exact (s119 _ _ _) rfl rfl ?_; rotate_right; conv => whnf) | ((first | (refine br_intro ?_ ?_ <;> intro hb <;> try simp only [brs] at hb) | refine rAx hT 8 oQFlG129_8 ?_ | omega | refine sAx ?_ | decide | assumption) <;> conv => whnf))
         all_goals first
          | (refine .ret _ ?_
             conv => whnf
             refine ⟨[], ⟨?_, rfl⟩, trivial⟩; conv => lhs; whnf
             congr 2
             exact (hbad _ (by omega) (by decide) (by rw [hok, hrs_no (j := 1) (by omega) (by show decide ((0 ≤ s.h 2 ∧ s.h 2 ≤ s.h 3) ∧ s.h 3 ≤ 1440) = false; rw [decide_eq_false_iff_not]; omega)]; rfl)).symm)
          | exact ⟨2, ⟨by omega, all_step (p := fun j => okW s j = true) (i := 1) q2 (by show decide ((0 ≤ s.h 2 ∧ s.h 2 ≤ s.h 3) ∧ s.h 3 ≤ 1440) = true; rw [decide_eq_true_eq]; omega)⟩, by omega, (by exact eAx [])⟩
       · conv => whnf
         repeat' (first | (refine CallX.exact (s119 _ _ _) rfl rfl ?_; rotate_right; conv => whnf) | ((first | (refine br_intro ?_ ?_ <;> intro hb <;> try simp only [brs] at hb) | refine rAx hT 8 oQFlG129_8 ?_ | omega | refine sAx ?_ | decide | assumption) <;> conv => whnf))
         all_goals first
          | (refine .ret _ ?_
             conv => whnf
             refine ⟨[], ⟨?_, rfl⟩, trivial⟩; conv => lhs; whnf
             congr 2
             exact (hbad _ (by omega) (by decide) (by rw [hok, hrs_no (j := 2) (by omega) (by show decide ((0 ≤ s.h 4 ∧ s.h 4 ≤ s.h 5) ∧ s.h 5 ≤ 1440) = false; rw [decide_eq_false_iff_not]; omega)]; rfl)).symm)
          | exact ⟨3, ⟨by omega, all_step (p := fun j => okW s j = true) (i := 2) q2 (by show decide ((0 ≤ s.h 4 ∧ s.h 4 ≤ s.h 5) ∧ s.h 5 ≤ 1440) = true; rw [decide_eq_true_eq]; omega)⟩, by omega, (by exact eAx [])⟩
       · conv => whnf
         repeat' (first | (refine CallX.exact (s119 _ _ _) rfl rfl ?_; rotate_right; conv => whnf) | ((first | (refine br_intro ?_ ?_ <;> intro hb <;> try simp only [brs] at hb) | refine rAx hT 8 oQFlG129_8 ?_ | omega | refine sAx ?_ | decide | assumption) <;> conv => whnf))
         all_goals first
          | (refine .ret _ ?_
             conv => whnf
             refine ⟨[], ⟨?_, rfl⟩, trivial⟩; conv => lhs; whnf
             congr 2
             exact (hbad _ (by omega) (by decide) (by rw [hok, hrs_no (j := 3) (by omega) (by show decide ((0 ≤ s.h 6 ∧ s.h 6 ≤ s.h 7) ∧ s.h 7 ≤ 1440) = false; rw [decide_eq_false_iff_not]; omega)]; rfl)).symm)
          | exact ⟨4, ⟨by omega, all_step (p := fun j => okW s j = true) (i := 3) q2 (by show decide ((0 ≤ s.h 6 ∧ s.h 6 ≤ s.h 7) ∧ s.h 7 ≤ 1440) = true; rw [decide_eq_true_eq]; omega)⟩, by omega, (by exact eAx [])⟩
       · conv => whnf
         repeat' (first | (refine CallX.exact (s119 _ _ _) rfl rfl ?_; rotate_right; conv => whnf) | ((first | (refine br_intro ?_ ?_ <;> intro hb <;> try simp only [brs] at hb) | refine rAx hT 8 oQFlG129_8 ?_ | omega | refine sAx ?_ | decide | assumption) <;> conv => whnf))
         all_goals first
          | (refine .ret _ ?_
             conv => whnf
             refine ⟨[], ⟨?_, rfl⟩, trivial⟩; conv => lhs; whnf
             congr 2
             exact (hbad _ (by omega) (by decide) (by rw [hok, hrs_no (j := 4) (by omega) (by show decide ((0 ≤ s.h 8 ∧ s.h 8 ≤ s.h 9) ∧ s.h 9 ≤ 1440) = false; rw [decide_eq_false_iff_not]; omega)]; rfl)).symm)
          | exact ⟨5, ⟨by omega, all_step (p := fun j => okW s j = true) (i := 4) q2 (by show decide ((0 ≤ s.h 8 ∧ s.h 8 ≤ s.h 9) ∧ s.h 9 ≤ 1440) = true; rw [decide_eq_true_eq]; omega)⟩, by omega, (by exact eAx [])⟩
       · conv => whnf
         repeat' (first | (refine CallX.exact (s119 _ _ _) rfl rfl ?_; rotate_right; conv => whnf) | ((first | (refine br_intro ?_ ?_ <;> intro hb <;> try simp only [brs] at hb) | refine rAx hT 8 oQFlG129_8 ?_ | omega | refine sAx ?_ | decide | assumption) <;> conv => whnf))
         all_goals first
          | (refine .ret _ ?_
             conv => whnf
             refine ⟨[], ⟨?_, rfl⟩, trivial⟩; conv => lhs; whnf
             congr 2
             exact (hbad _ (by omega) (by decide) (by rw [hok, hrs_no (j := 5) (by omega) (by show decide ((0 ≤ s.h 10 ∧ s.h 10 ≤ s.h 11) ∧ s.h 11 ≤ 1440) = false; rw [decide_eq_false_iff_not]; omega)]; rfl)).symm)
          | exact ⟨6, ⟨by omega, all_step (p := fun j => okW s j = true) (i := 5) q2 (by show decide ((0 ≤ s.h 10 ∧ s.h 10 ≤ s.h 11) ∧ s.h 11 ≤ 1440) = true; rw [decide_eq_true_eq]; omega)⟩, by omega, (by exact eAx [])⟩
       · conv => whnf
         repeat' (first | (refine CallX.exact (s119 _ _ _) rfl rfl ?_; rotate_right; conv => whnf) | ((first | (refine br_intro ?_ ?_ <;> intro hb <;> try simp only [brs] at hb) | refine rAx hT 8 oQFlG129_8 ?_ | omega | refine sAx ?_ | decide | assumption) <;> conv => whnf))
         all_goals first
          | (refine .ret _ ?_
             conv => whnf
             refine ⟨[], ⟨?_, rfl⟩, trivial⟩; conv => lhs; whnf
             congr 2
             exact (hbad _ (by omega) (by decide) (by rw [hok, hrs_no (j := 6) (by omega) (by show decide ((0 ≤ s.h 12 ∧ s.h 12 ≤ s.h 13) ∧ s.h 13 ≤ 1440) = false; rw [decide_eq_false_iff_not]; omega)]; rfl)).symm)
          | exact ⟨7, ⟨by omega, all_step (p := fun j => okW s j = true) (i := 6) q2 (by show decide ((0 ≤ s.h 12 ∧ s.h 12 ≤ s.h 13) ∧ s.h 13 ≤ 1440) = true; rw [decide_eq_true_eq]; omega)⟩, by omega, (by exact eAx [])⟩)
 have hil : i = l.length := by omega
 subst hil; conv => whnf
 repeat' (first | ((first | (refine br_intro ?_ ?_ <;> intro hb <;> try simp only [brs] at hb) | refine rAx hT 8 oQFlG129_8 ?_ | omega | refine sAx ?_ | decide | assumption) <;> conv => whnf))
 all_goals try (exfalso; omega)
 refine .ret _ ?_; conv => whnf
 refine ⟨[], ⟨?_, rfl⟩, trivial⟩; conv => lhs; whnf
 congr 2
 unfold stasE; rw [if_neg (by omega), firstAt_zero p2]
def vehE1 (f : Flt) (i : Nat) : Int :=
 if isKeyB (f.veh.getD i veh0).key = false then 5 else if 0 < i ∧ strLe (f.veh.getD i veh0).key (f.veh.getD (i - 1) veh0).key = true then 7
 else if clIx f.cls (f.veh.getD i veh0).cls < 0 then 8 else 0
def pltE1 (f : Flt) (i : Nat) : Int :=
 if ¬ (0 ≤ (f.plt.getD i plt0).frm ∧ (f.plt.getD i plt0).frm ≤ 5761439) then 1 else if veIx f.veh (f.plt.getD i plt0).veh < 0 then 8 else if isPlateB (f.plt.getD i plt0).plt = false then 3
 else if 0 < i ∧ 0 ≤ pltCmp (f.plt.getD (i - 1) plt0) (f.plt.getD i plt0) then 7 else if ((f.plt.take i).any (twP (f.plt.getD i plt0))) = true then 6 else 0
def fltE0 (f : Flt) : Int := firstE [stasE f.sta, clssE f.cls, if 500 < f.veh.length then 2 else 0]
def fltE (f : Flt) : Int := if fltE0 f ≠ 0 then fltE0 f else if firstAt (vehE1 f) f.veh.length ≠ 0 then firstAt (vehE1 f) f.veh.length
 else if 1000 < f.plt.length then 2 else firstAt (pltE1 f) f.plt.length
structure fltOk (f : Flt) : Prop where
 sta : stasOk f.sta
 cls : clsOk f.cls
 veh : f.veh.length ≤ 2^20 ∧ ∀ v ∈ f.veh, v.key.length ≤ 2^40 ∧ v.cls.length ≤ 2^40
 plt : f.plt.length ≤ 2^20 ∧ ∀ p ∈ f.plt, (-2^40 ≤ p.frm ∧ p.frm ≤ 2^40) ∧ p.veh.length ≤ 2^40 ∧ p.plt.length ≤ 2^40
def fltC (f : Flt) : Res := .cells 31 [.d (stas f.sta), .d (clss f.cls), .d (vehs f.veh), .d (plts f.plt)]
theorem vehE_sorted {f : Flt} (h : firstAt (vehE1 f) f.veh.length = 0) : vehS f.veh := by
 have h0 := firstAt_all h
 have step : ∀ j, j + 1 < f.veh.length → Op.bytesLess (f.veh.getD j veh0).key (f.veh.getD (j + 1) veh0).key = true := by
  intro j hj; have := h0 (j + 1) hj; unfold vehE1 strLe at this; simp only [Nat.add_sub_cancel] at this; have hl := less_tri (f.veh.getD (j + 1) veh0).key (f.veh.getD j veh0).key; grind
 intro i j hij hj
 induction j with
 | zero => omega
 | succ j ih =>
   rcases Nat.lt_or_ge i j with q | q
   · exact less_trans (ih q (by omega)) (step j hj)
   · obtain rfl : i = j := by omega
     exact step i hj
theorem z243 (f : Flt) (hl : f.veh.length ≤ 2^20) (hs : vehS f.veh) (key : List UInt8) : FSpec Tryz.prog 133 [flt f, .d (.str key)] [] (fun x r => x = .d (.int .i64 (veIx f.veh key)) ∧ r = []) := by
 refine spec_of hT (C := []) Tryz.func133 rfl Tryz.call133 rfl rfl rfl ?_; conv => whnf
 refine oAx (z286 f.veh hl hs key) [] ?_; rintro x rout ⟨⟨j, b, rfl, hj⟩, rfl⟩; refine ⟨rfl, ?_⟩; conv => whnf
 repeat' (first | ((first | (refine br_intro ?_ ?_ <;> intro hb <;> try simp only [brs] at hb) | omega | refine sAx ?_ | decide | assumption) <;> conv => whnf))
 · refine .ret _ ?_; conv => whnf
   refine ⟨[], ⟨?_, rfl⟩, trivial⟩; conv => lhs; whnf
   congr 2
   rw [hj, if_neg (by simp [hb])]
 · refine .ret _ ?_; conv => whnf
   refine ⟨[], ⟨?_, rfl⟩, trivial⟩; conv => lhs; whnf
   congr 2
   rw [hj, if_pos hb]
def oQFlL132_14 : OL := [(0, []), (1, []), (2, [0, 1]), (3, [0, 1]), (5, rg 4), (6, rg 4), (7, [0, 1, 2, 3, 5, 6]), (8, [0, 1, 2, 3, 5, 6]), (10, [0, 1, 2, 3, 5, 6, 7, 8]), (11, [0, 1, 2, 3, 5, 6, 7, 8]), (12, [0, 1, 2, 3, 5, 6, 7, 8, 10, 11]), (13, [0, 1, 2, 3, 5, 6, 7, 8, 10, 11]), (4, [5, 6, 7, 8, 10, 11, 12, 13]), (9, [10, 11, 12, 13]), (14, []), (15, []), (16, []), (17, [])]
def oQFlL132_17 : OL := [(0, []), (1, []), (2, []), (3, []), (4, []), (5, [3, 4]), (6, []), (7, []), (8, []), (9, [3, 4, 5, 6, 7, 8]), (10, [3, 4, 5, 6, 7, 8]), (11, []), (12, [])]
theorem pltCmp_frm {a b : Plt} (h : pltCmp a b < 0) : a.frm ≤ b.frm := by
 unfold pltCmp at h; rw [firstE] at h; split at h
 · rename_i q; unfold cmpI at q; split at q <;> (try split at q) <;> omega
 · unfold cmpI at h; split at h <;> (try split at h) <;> omega
theorem pltE1_cmp {f : Flt} {j : Nat} (h : pltE1 f j = 0) (hj : 0 < j) : pltCmp (f.plt.getD (j - 1) plt0) (f.plt.getD j plt0) < 0 := by
 unfold pltE1 at h; grind
theorem frm_mono {f : Flt} {i : Nat} (h : ∀ j, j ≤ i → 0 < j → pltCmp (f.plt.getD (j - 1) plt0) (f.plt.getD j plt0) < 0) : ∀ b a, a ≤ b → b ≤ i → (f.plt.getD a plt0).frm ≤ (f.plt.getD b plt0).frm := by
 intro b
 induction b with
 | zero => intro a ha _; obtain rfl : a = 0 := by omega
           exact Int.le_refl _
 | succ b ih =>
   intro a ha hb; rcases Nat.lt_or_ge a (b + 1) with q | q
   · have h1 := ih a (by omega) (by omega); have h2 := pltCmp_frm (h (b + 1) hb (by omega)); rw [Nat.add_sub_cancel] at h2; omega
   · obtain rfl : a = b + 1 := by omega
     exact Int.le_refl _
theorem getD_take {α : Type} {l : List α} {d : α} {i j : Nat} (h : j < i) : (l.take i).getD j d = l.getD j d := by
 rw [List.getD_eq_getElem?_getD, List.getElem?_take_of_lt h, ← List.getD_eq_getElem?_getD]
theorem tw_none {f : Flt} {i m : Nat} (hi : i < f.plt.length) (hm : m ≤ i) (h1 : ∀ j, m ≤ j → j < i → twP (f.plt.getD i plt0) (f.plt.getD j plt0) = false)
 (h2 : ∀ j, j < m → (f.plt.getD j plt0).frm ≠ (f.plt.getD i plt0).frm) : (f.plt.take i).any (twP (f.plt.getD i plt0)) = false := by
 rw [List.any_eq_false]; intro x hx; obtain ⟨j, hj, rfl⟩ := mem_getD (d := plt0) hx; rw [List.length_take] at hj; rw [getD_take (by omega)]; rcases Nat.lt_or_ge j m with q | q
 · unfold twP; simp only [decide_eq_false (h2 j q), Bool.false_and]; simp
 · rw [h1 j q (by omega)]; simp
theorem tw_some {f : Flt} {i k : Nat} (hi : i < f.plt.length) (hk : k < i) (h : twP (f.plt.getD i plt0) (f.plt.getD k plt0) = true) : (f.plt.take i).any (twP (f.plt.getD i plt0)) = true := by
 rw [List.any_eq_true]; refine ⟨(f.plt.take i).getD k plt0, getD_mem (by rw [List.length_take]; omega), ?_⟩; rw [getD_take hk]; exact h
def pltsE (f : Flt) : Int := if 1000 < f.plt.length then 2 else firstAt (pltE1 f) f.plt.length
set_option maxHeartbeats 4000000 in
theorem z177 (f : Flt) (hk : fltOk f) (hs : vehS f.veh) : FSpec Tryz.prog 132 [flt f] [] (fun x r => x = .d (.int .i64 (pltsE f)) ∧ r = []) := by
 have hlv := hk.veh.1; have hlp := hk.plt.1; refine spec_of hT (C := []) Tryz.func132 rfl Tryz.call132 rfl rfl rfl ?_; conv => whnf
 repeat' (first | ((first | (refine br_intro ?_ ?_ <;> intro hb <;> try simp only [brs] at hb) | refine rAx hT 14 oQFlL132_14 ?_ | refine rAx hT 17 oQFlL132_17 ?_ | omega | refine sAx ?_ | decide | assumption) <;> conv => whnf))
 · refine .ret _ ?_; conv => whnf
   refine ⟨[], ⟨?_, rfl⟩, trivial⟩; conv => lhs; whnf
   congr 2
   unfold pltsE; rw [if_pos (by omega)]
 refine LoopX.rule hT (C := []) (ι := Nat) (fun i => i ≤ f.plt.length ∧ ∀ j, j < i → pltE1 f j = 0) (fun i => mkSt [(1, .ptr 1 0), (13, .d (plts f.plt)), (14, .d (.int .i64 f.plt.length)), (15, .d (.int .i64 i))] [(1, fltC f)]) (fun i => f.plt.length - i) 0 ⟨by omega, by omega⟩ (by exact eAx [(1, 1)]) ?_; rintro i ⟨p1, p2⟩; have hx : (i : Int) < f.plt.length → (-2^40 ≤ (f.plt.getD (i : Int).toNat plt0).frm ∧ (f.plt.getD (i : Int).toNat plt0).frm ≤ 2^40) ∧ (f.plt.getD (i : Int).toNat plt0).veh.length ≤ 2^40 ∧ (f.plt.getD (i : Int).toNat plt0).plt.length ≤ 2^40 := fun hi => hk.plt.2 _ (getD_mem (by omega))
 have e1 : (i : Int).toNat = i := Int.toNat_natCast i
 have hbad : ∀ e : Int, i < f.plt.length → e ≠ 0 → pltE1 f i = e → pltsE f = e := fun e h h1 h2 => by
  unfold pltsE; rw [if_neg (by omega), firstAt_eq h p2 h1 h2]
 rcases Nat.lt_or_ge i f.plt.length with hi | hi
 · have hx2 := hx (by omega); have hz : ((i : Int) - 1).toNat = i - 1 := by omega
   conv => whnf
   repeat' (first | (refine CallX.exact (s154 _) rfl rfl ?_; rotate_right; conv => whnf) | (refine CallX.exact (z243 f (by omega) hs _) rfl rfl ?_; rotate_right; conv => whnf) | (refine CallX.exact (s185 _ hx2.2.2) rfl rfl ?_; rotate_right; conv => whnf) | (refine CallX.exact (s183 _ _) rfl rfl ?_; rotate_right; conv => whnf) | (refine CallX.exact (s184 _ _) rfl rfl ?_; rotate_right; conv => whnf) | ((first | refine CallX.pure (s182 [cmpI (f.plt.getD ((i : Int) - 1).toNat plt0).frm (f.plt.getD (i : Int).toNat plt0).frm, cmpS (f.plt.getD ((i : Int) - 1).toNat plt0).veh (f.plt.getD (i : Int).toNat plt0).veh, cmpS (f.plt.getD ((i : Int) - 1).toNat plt0).plt (f.plt.getD (i : Int).toNat plt0).plt] (by simp)) ⟨SV.le_lit (by rfl) (by rfl), trivial⟩ rfl ?_ | (refine br_intro ?_ ?_ <;> intro hb <;> try simp only [brs] at hb) | refine rAx hT 14 oQFlL132_14 ?_ | refine rAx hT 17 oQFlL132_17 ?_ | omega | refine sAx ?_ | decide | assumption) <;> conv => whnf))
   all_goals first
    | (refine .ret _ ?_
       conv => whnf
       refine ⟨[], ⟨?_, rfl⟩, trivial⟩; conv => lhs; whnf
       congr 2
       exact (hbad _ (by omega) (by decide) (by clear p2 hbad hk hx hx2; simp only [e1, hz] at *; unfold pltE1; (try unfold pltCmp); grind)).symm)
    | (have hcmp : 0 < i → pltCmp (f.plt.getD (i - 1) plt0) (f.plt.getD i plt0) < 0 := by
        intro _
        first
         | (exfalso; omega)
         | (clear p2 hbad hk hx hx2; simp only [e1, hz] at *; unfold pltCmp; assumption)
       have hall : ∀ j, j ≤ i → 0 < j → pltCmp (f.plt.getD (j - 1) plt0) (f.plt.getD j plt0) < 0 := fun j h1 h2 => by
        rcases Nat.lt_or_ge j i with q | q
        · exact pltE1_cmp (p2 j q) h2
        · obtain rfl : j = i := by omega
          exact hcmp h2
       have hz0 : ∀ (c : Bool), pltE1 f i = (if (f.plt.take i).any (twP (f.plt.getD i plt0)) = true then 6 else 0) := by
        intro _; clear p2 hbad hk hx hx2; simp only [e1, hz] at *; unfold pltE1; grind
       have hz0 := hz0 true
       refine LoopX.rule hT (C := []) (ι := Nat) (fun m => m ≤ i ∧ ∀ j, m ≤ j → j < i → (f.plt.getD j plt0).frm = (f.plt.getD i plt0).frm ∧ twP (f.plt.getD i plt0) (f.plt.getD j plt0) = false)
        (fun m => mkSt [(1, .ptr 1 0), (4, .ptr 4 0), (6, .d (.int .i64 ((m : Int) - 1))), (13, .d (plts f.plt)), (14, .d (.int .i64 f.plt.length)), (15, .d (.int .i64 i))] [(1, fltC f), (4, pltC (f.plt.getD (i : Int).toNat plt0))]) (fun m => m) i ⟨by omega, fun j h1 h2 => by omega⟩ (by exact eAx [(1, 1), (4, 4)]) ?_
       rintro m ⟨q1, q2⟩; have hm1 : 0 < m → ((m : Int) - 1).toNat = m - 1 := fun h => by omega
       conv => whnf
       repeat' (first | ((first | (refine br_intro ?_ ?_ <;> intro hb <;> try simp only [brs] at hb) | refine rAx hT 14 oQFlL132_14 ?_ | refine rAx hT 17 oQFlL132_17 ?_ | omega | refine sAx ?_ | decide | assumption) <;> conv => whnf))
       all_goals first
        | (refine .ret _ ?_
           conv => whnf
           refine ⟨[], ⟨?_, rfl⟩, trivial⟩; conv => lhs; whnf
           congr 2
           refine (hbad _ (by omega) (by decide) ?_).symm
           rw [hz0, if_pos (tw_some hi (k := m - 1) (by omega) (by clear p2 hbad hk hx hx2 hall; simp only [e1, hm1 (by omega)] at *; unfold twP; grind))])
        | exact ⟨m - 1, ⟨by omega, fun j h1 h2 => by
           rcases Nat.lt_or_ge j m with r | r
           · obtain rfl : j = m - 1 := by omega
             clear p2 hbad hk hx hx2 hall; simp only [e1, hm1 (by omega)] at *; unfold twP; grind
           · exact q2 j r h2⟩, by show m - 1 < m; omega, Entails.mk' [(1, 1), (4, 4)] rfl rfl ⟨lr, lr, SV.le_int (by omega), lr, lr, lr, trivial⟩ ⟨rr, rr, trivial⟩⟩
        | exact ⟨i + 1, ⟨by omega, first_step p2 (by
           rw [hz0, tw_none hi q1 (fun j h1 h2 => (q2 j h1 h2).2) (fun j h1 => by
            have h2 := frm_mono hall i (m - 1) (by omega) (by omega); have h3 := frm_mono hall (m - 1) j (by omega) (by omega); clear p2 hbad hk hx hx2 hall; simp only [e1, hm1 (by omega)] at *
            omega)]
           rfl)⟩, by omega, (by exact eAx [(1, 1)])⟩)
 have hil : i = f.plt.length := by omega
 subst hil; have F2 := firstAt_zero p2; clear hbad hx p2; conv => whnf
 repeat' (first | ((first | (refine br_intro ?_ ?_ <;> intro hb <;> try simp only [brs] at hb) | refine rAx hT 14 oQFlL132_14 ?_ | refine rAx hT 17 oQFlL132_17 ?_ | omega | refine sAx ?_ | decide | assumption) <;> conv => whnf))
 all_goals try (exfalso; omega)
 refine .ret _ ?_; conv => whnf
 refine ⟨[], ⟨?_, rfl⟩, trivial⟩; conv => lhs; whnf
 congr 2
 unfold pltsE; rw [if_neg (by omega)]; exact F2.symm
def oQFlM87_1 : OL := [(0, []), (1, []), (3, [0, 1]), (4, [0, 1]), (6, [0, 1, 3, 4]), (7, [0, 1, 3, 4]), (8, [0, 1, 3, 4]), (9, [0, 1, 3, 4]), (2, [3, 4, 6, 7, 8, 9]), (5, [6, 7, 8, 9]), (10, []), (11, []), (12, []), (13, [])]
def oQFlM87_9 : OL := [(0, []), (1, []), (2, []), (3, []), (4, []), (5, [3, 4]), (6, [3, 4]), (7, [3, 4, 5, 6]), (8, [3, 4, 5, 6]), (9, [3, 4]), (10, [3, 4]), (11, [3, 4]), (12, []), (13, []), (14, [])]
set_option maxHeartbeats 4000000 in
theorem z114 (f : Flt) (hk : fltOk f) : FSpec Tryz.prog 87 [flt f] [] (fun x r => x = .d (.int .i64 (fltE f)) ∧ r = []) := by
 have hlv := hk.veh.1; have hlp := hk.plt.1
 have H : (if decide ((500 : Int) < f.veh.length) = true then (2 : Int) else 0) = if 500 < f.veh.length then 2 else 0 := by
  simp only [decide_eq_true_eq]; congr 1; rw [eq_iff_iff]; omega
 have h3 := s105 [stasE f.sta, clssE f.cls, if decide ((500 : Int) < f.veh.length) = true then 2 else 0] (by simp); rw [show firstE [stasE f.sta, clssE f.cls, if decide ((500 : Int) < f.veh.length) = true then 2 else 0] = fltE0 f from by rw [H]; rfl] at h3; refine spec_of hT (C := []) Tryz.func87 rfl Tryz.call87 rfl rfl rfl ?_; conv => whnf
 repeat' (first | (refine CallX.exact (z174 f.sta hk.sta) rfl rfl ?_; rotate_right; conv => whnf) | (refine CallX.exact (z175 f.cls hk.cls) rfl rfl ?_; rotate_right; conv => whnf) | (refine CallX.exact (s107 _ _) rfl rfl ?_; rotate_right; conv => whnf) | ((first | refine CallX.pure h3 ⟨SV.le_lit (by rfl) (by rfl), trivial⟩ rfl ?_ | (refine br_intro ?_ ?_ <;> intro hb <;> try simp only [brs] at hb) | refine rAx hT 1 oQFlM87_1 ?_ | refine rAx hT 9 oQFlM87_9 ?_ | omega | refine sAx ?_ | decide | assumption) <;> conv => whnf))
 · refine .ret _ ?_; conv => whnf
   refine ⟨[], ⟨?_, rfl⟩, trivial⟩; conv => lhs; whnf
   congr 2
   unfold fltE; rw [if_pos hb]
 have F0 : fltE0 f = 0 := hb; refine LoopX.rule hT (C := []) (ι := Nat) (fun i => i ≤ f.veh.length ∧ ∀ j, j < i → vehE1 f j = 0) (fun i => mkSt [(1, .ptr 1 0), (23, .d (vehs f.veh)), (24, .d (.int .i64 f.veh.length)), (25, .d (.int .i64 i))] [(1, fltC f)]) (fun i => f.veh.length - i) 0 ⟨by omega, by omega⟩ (by exact eAx [(1, 1)]) ?_; rintro i ⟨p1, p2⟩; have hx : (i : Int) < f.veh.length → (f.veh.getD (i : Int).toNat veh0).key.length ≤ 2^40 ∧ (f.veh.getD (i : Int).toNat veh0).cls.length ≤ 2^40 := fun hi => hk.veh.2 _ (getD_mem (by omega))
 have e1 : (i : Int).toNat = i := Int.toNat_natCast i
 have hbad : ∀ e : Int, i < f.veh.length → e ≠ 0 → vehE1 f i = e → fltE f = e := fun e h h1 h2 => by
  unfold fltE; rw [if_neg (by omega), firstAt_eq h p2 h1 h2, if_pos h1]
 rcases Nat.lt_or_ge i f.veh.length with hi | hi
 · conv => whnf
   repeat' (first | (refine CallX.exact (s108 _ (hx (by omega)).1) rfl rfl ?_; rotate_right; conv => whnf) | (refine CallX.exact (z176 f.cls (Nat.le_trans hk.cls.1 (by decide)) _) rfl rfl ?_; rotate_right; conv => whnf) | ((first | (refine br_intro ?_ ?_ <;> intro hb <;> try simp only [brs] at hb) | refine rAx hT 1 oQFlM87_1 ?_ | refine rAx hT 9 oQFlM87_9 ?_ | omega | refine sAx ?_ | decide | assumption) <;> conv => whnf))
   all_goals try (exfalso; omega)
   all_goals first
    | (refine ⟨i + 1, ⟨by omega, first_step p2 (by clear p2 hbad hk hx; simp only [e1, toNat_pred] at *; unfold vehE1 strLe; grind)⟩, by omega, (by exact eAx [(1, 1)])⟩)
    | (refine .ret _ ?_
       conv => whnf
       refine ⟨[], ⟨?_, rfl⟩, trivial⟩; conv => lhs; whnf
       congr 2
       exact (hbad _ (by omega) (by decide) (by clear p2 hbad hk hx; simp only [e1, toNat_pred] at *; unfold vehE1 strLe; grind)).symm)
 have hil : i = f.veh.length := by omega
 subst hil; have F1 := firstAt_zero p2; clear hbad hx p2; conv => whnf
 repeat' (first | (refine CallX.exact (z177 f hk (vehE_sorted F1)) rfl rfl ?_; rotate_right; conv => whnf) | ((first | (refine br_intro ?_ ?_ <;> intro hb <;> try simp only [brs] at hb) | refine rAx hT 1 oQFlM87_1 ?_ | refine rAx hT 9 oQFlM87_9 ?_ | omega | refine sAx ?_ | decide | assumption) <;> conv => whnf))
 all_goals try (exfalso; omega)
 refine .ret _ ?_; conv => whnf
 refine ⟨[], ⟨?_, rfl⟩, trivial⟩; conv => lhs; whnf
 congr 2
 unfold fltE pltsE; simp [F0, F1]
def oQTaA143_18 : OL := [(0, []), (1, []), (2, [0, 1]), (3, [0, 1]), (5, rg 4), (6, rg 4), (7, [0, 1, 2, 3, 5, 6]), (8, [0, 1, 2, 3, 5, 6]), (4, [5, 6, 7, 8]), (9, []), (10, []), (11, []), (12, [])]
def oQTaA97_6 : OL := [(0, []), (1, []), (2, [0, 1]), (3, [0, 1]), (4, rg 4), (5, rg 4), (6, rg 6), (7, rg 6), (8, []), (9, rg 9), (10, rg 9), (11, rg 11), (12, rg 11), (13, rg 13), (14, rg 13), (15, rg 15), (16, rg 15), (17, rg 9), (18, [9, 10, 11, 12, 13, 14, 15, 16, 17]), (19, [])]
structure Rat where
 cls : List UInt8
 frm : Int
 to : Int
 hr : Int
 dy : Int
 we : Int
 wk : Int
def ratF (x : Rat) : List DV := [.str x.cls, .int .i64 x.frm, .int .i64 x.to, .int .i64 x.hr, .int .i64 x.dy, .int .i64 x.we, .int .i64 x.wk]
def rat0 : Rat := ⟨[], 0, 0, 0, 0, 0, 0⟩
abbrev rats (l : List Rat) : DV := seqD 7 ratF rat0 l
def numO (n : Int) : Prop := -1 ≤ n ∧ n ≤ 1000000
instance (n : Int) : Decidable (numO n) := by unfold numO; infer_instance
def nums (x : Rat) : Prop := numO x.hr ∧ numO x.dy ∧ numO x.we ∧ numO x.wk
instance (x : Rat) : Decidable (nums x) := by unfold nums; infer_instance
theorem cmp2_ge (a b : List UInt8) (m n : Int) : (0 ≤ firstE [cmpS a b, cmpI m n]) = (Op.bytesLess b a = true ∨ (a = b ∧ n ≤ m)) := by
 apply propext
 unfold firstE cmpS cmpI firstE firstE; have h1 := less_tri a b; have h2 := less_irr a; grind [less_trans]
theorem cmp2s_ge (a b c d : List UInt8) : (0 ≤ firstE [cmpS a b, cmpS c d]) = (Op.bytesLess b a = true ∨ (a = b ∧ strLe d c = true)) := by
 apply propext
 unfold firstE cmpS firstE firstE strLe; have h1 := less_tri a b; have h2 := less_irr a; have h3 := less_tri c d; have h4 := less_irr c; grind [less_trans]
theorem cmp2_lt (a b : List UInt8) (m n : Int) : (firstE [cmpS a b, cmpI m n] < 0) = ¬ (Op.bytesLess b a = true ∨ (a = b ∧ n ≤ m)) := by
 rw [← cmp2_ge]; exact propext Int.not_le.symm
theorem cmp2s_lt (a b c d : List UInt8) : (firstE [cmpS a b, cmpS c d] < 0) = ¬ (Op.bytesLess b a = true ∨ (a = b ∧ strLe d c = true)) := by
 rw [← cmp2s_ge]; exact propext Int.not_le.symm
def ratE (l : List Rat) (i : Nat) : Int :=
 let x := l.getD i rat0
 let q := l.getD (i - 1) rat0
 if isKeyB x.cls = false then 5 else if ¬ (0 ≤ x.frm ∧ x.frm < x.to ∧ x.to ≤ 4001 ∧ nums x) then 1 else if 0 < i ∧ (Op.bytesLess x.cls q.cls = true ∨ (q.cls = x.cls ∧ x.frm ≤ q.frm)) then 7 else if 0 < i ∧ q.cls = x.cls ∧ x.frm < q.to then 13 else 0
def ratsE (l : List Rat) : Int := if 200 < l.length then 2 else firstAt (ratE l) l.length
def ratK (x : Rat) : Prop := x.cls.length ≤ 2^40
def ratOk (l : List Rat) : Prop := l.length ≤ 2^40 ∧ ∀ x ∈ l, ratK x
theorem min4_lt (p q r t c : Int) : (min (min (min p q) r) t < c) = (p < c ∨ q < c ∨ r < c ∨ t < c) := by apply propext; omega
theorem max4_gt (p q r t c : Int) : (c < max (max (max p q) r) t) = (c < p ∨ c < q ∨ c < r ∨ c < t) := by apply propext; omega
set_option maxHeartbeats 4000000 in
theorem y149 (l : List Rat) (hk : ratOk l) : FSpec Tryz.prog 143 [.d (rats l)] [] (fun x r => x = .d (.int .i64 (ratsE l)) ∧ r = []) := by
 refine spec_of hT (C := []) Tryz.func143 rfl Tryz.call143 rfl rfl rfl ?_; conv => whnf
 refine br_intro (fun h0 => ?_) (fun h0 => ?_)
 · simp at h0; conv => whnf
   refine .ret _ ?_; conv => whnf
   refine ⟨[], ⟨?_, rfl⟩, trivial⟩; conv => lhs; whnf
   unfold ratsE; rw [if_pos (by omega)]
 simp at h0; conv => whnf
 refine LoopX.rule hT (C := []) (ι := Nat) (fun i => i ≤ l.length ∧ ∀ j, j < i → ratE l j = 0) (fun i => mkSt [(0, .d (rats l)), (11, .d (rats l)), (12, .d (.int .i64 l.length)), (13, .d (.int .i64 i))] []) (fun i => l.length - i) 0 ⟨by omega, by omega⟩ (by exact eAx []) ?_; rintro i ⟨p1, p2⟩; have hx : (i : Int) < l.length → ratK (l.getD (i : Int).toNat rat0) := fun hi => hk.2 _ (getD_mem (by omega))
 have e1 : (i : Int).toNat = i := Int.toNat_natCast i
 have hbad : ∀ e : Int, i < l.length → e ≠ 0 → ratE l i = e → ratsE l = e := fun e h h1 h2 => by
  unfold ratsE; rw [if_neg (by omega)]; exact firstAt_eq h p2 h1 h2
 conv => whnf
 repeat' (first | (refine CallX.exact (s108 _ (hx (by omega))) rfl rfl ?_; rotate_right; conv => whnf) | ((first | (refine br_intro ?_ ?_ <;> intro hb <;> try simp only [brs] at hb) | refine rAx hT 18 oQTaA143_18 ?_ | omega | refine sAx ?_ | decide | assumption) <;> conv => whnf))
 · refine .ret _ ?_; conv => whnf
   refine ⟨[], ⟨?_, rfl⟩, trivial⟩; conv => lhs; whnf
   congr 2
   exact (hbad _ (by omega) (by decide) (by clear p2 hbad hk hx; simp only [e1] at *; unfold ratE; grind)).symm
 · refine .ret _ ?_; conv => whnf
   refine ⟨[], ⟨?_, rfl⟩, trivial⟩; conv => lhs; whnf
   congr 2
   exact (hbad _ (by omega) (by decide) (by clear p2 hbad hk hx; simp only [e1] at *; unfold ratE; grind)).symm
 · refine .ret _ ?_; conv => whnf
   refine ⟨[], ⟨?_, rfl⟩, trivial⟩; conv => lhs; whnf
   congr 2
   exact (hbad _ (by omega) (by decide) (by clear p2 hbad hk hx; simp only [e1] at *; unfold ratE; grind)).symm
 · refine .ret _ ?_; conv => whnf
   refine ⟨[], ⟨?_, rfl⟩, trivial⟩; conv => lhs; whnf
   congr 2
   exact (hbad _ (by omega) (by decide) (by clear p2 hbad hk hx; simp only [e1] at *; unfold ratE; grind)).symm
 · have hi : i < l.length := by omega
   have hN : isKeyB (l.getD i rat0).cls = true ∧ 0 ≤ (l.getD i rat0).frm ∧ (l.getD i rat0).frm < (l.getD i rat0).to ∧ (l.getD i rat0).to ≤ 4001 := by clear p2 hbad hk hx; simp only [e1] at *; grind
   have hR : ratE l i = if ¬ nums (l.getD i rat0) then 1 else if 0 < i ∧ (Op.bytesLess (l.getD i rat0).cls (l.getD (i - 1) rat0).cls = true ∨ ((l.getD (i - 1) rat0).cls = (l.getD i rat0).cls ∧ (l.getD i rat0).frm ≤ (l.getD (i - 1) rat0).frm)) then 7 else if 0 < i ∧ (l.getD (i - 1) rat0).cls = (l.getD i rat0).cls ∧ (l.getD i rat0).frm < (l.getD (i - 1) rat0).to then 13 else 0 := by
    obtain ⟨n1, n2, n3, n4⟩ := hN; unfold ratE; simp only; rw [if_neg (by rw [n1]; simp)]
    by_cases hn : nums (l.getD i rat0) <;> simp only [hn, n2, n3, n4, and_true, and_false, true_and, not_true_eq_false, not_false_eq_true, if_true, if_false]
   obtain ⟨X, hX⟩ : ∃ X, X = l.getD (i : Int).toNat rat0 := ⟨_, rfl⟩; have hX2 : l.getD i rat0 = X := hX.symm; rw [hX2] at hN hR; refine LoopX.rule hT (C := []) (ι := Nat) (fun k => k ≤ 4 ∧ ∀ j, j < k → numO (([X.hr, X.dy, X.we, X.wk] : List Int).getD j 0)) (fun k => mkSt [(0, .d (rats l)), (3, .d (.int .i64 i)), (4, .ptr 4 0), (11, .d (rats l)), (12, .d (.int .i64 l.length)), (13, .d (.int .i64 i)), (47, .d (ints [X.hr, X.dy, X.we, X.wk])), (48, .d (.int .i64 4)), (49, .d (.int .i64 k))] [(4, .cells 210 ((ratF X).map .d))]) (fun k => 4 - k) 0 ⟨by omega, by omega⟩ (by subst hX; exact (by (refine Entails.mk' [(4, 4)] rfl rfl ?_ ?_ <;> repeat' (first | exact True.intro | exact lr | exact rr | (exact SV.le_lit rfl rfl) | exact SV.le_int (by omega) | exact SV.le_any _ | refine And.intro ?_ ?_)); done)) ?_; rintro k ⟨q1, q2⟩; have e2 : (k : Int).toNat = k := Int.toNat_natCast k; clear hx hk; conv => whnf
   repeat' (first | (refine CallX.exact (s119 _ _ _) rfl rfl ?_; rotate_right; conv => whnf) | (refine CallX.exact (s184 _ _) rfl rfl ?_; rotate_right; conv => whnf) | (refine CallX.exact (s183 _ _) rfl rfl ?_; rotate_right; conv => whnf) | ((first | refine CallX.pure (s182 [_, _] (by simp)) ⟨SV.le_lit (by rfl) (by rfl), trivial⟩ rfl ?_ | (refine br_intro ?_ ?_ <;> intro hb <;> try simp only [brs] at hb) | refine rAx hT 18 oQTaA143_18 ?_ | omega | refine sAx ?_ | decide | assumption) <;> conv => whnf))
   · refine .ret _ ?_; conv => whnf
     refine ⟨[], ⟨?_, rfl⟩, trivial⟩; conv => lhs; whnf
     congr 2
     refine (hbad _ hi (by decide) ?_).symm; rw [hR, if_pos]; rintro ⟨⟨n1, n2⟩, ⟨n3, n4⟩, ⟨n5, n6⟩, n7, n8⟩; have hk4 : k = 0 ∨ k = 1 ∨ k = 2 ∨ k = 3 := by omega
     rcases hk4 with rfl | rfl | rfl | rfl <;> (simp only [Int.toNat_natCast, List.getD_cons_zero, List.getD_cons_succ] at hb; omega)
   · exact ⟨k + 1, ⟨by omega, all_step q2 hb⟩, by omega, (by exact eAx [(4, 4)])⟩
   all_goals
    have hk4 : k = 4 := by omega
    subst hk4; have hn : nums X := ⟨q2 0 (by omega), q2 1 (by omega), q2 2 (by omega), q2 3 (by omega)⟩; rw [if_neg (fun h => h hn)] at hR; clear q1 q2 e2 hN
    first
     | (refine ⟨i + 1, ⟨by omega, first_step p2 (by rw [hR]; clear p2 hbad hR hX hX2; simp only [e1, toNat_pred] at *; (try simp only [cmp2_ge, cmp2_lt] at *); grind)⟩, by omega, (by exact eAx [])⟩)
     | (refine .ret _ ?_
        conv => whnf
        refine ⟨[], ⟨?_, rfl⟩, trivial⟩; conv => lhs; whnf
        congr 2
        exact (hbad _ hi (by decide) (by rw [hR]; clear p2 hbad hR hX hX2; simp only [e1, toNat_pred] at *; (try simp only [cmp2_ge, cmp2_lt] at *); grind)).symm)
 · refine .ret _ ?_; conv => whnf
   refine ⟨[], ⟨?_, rfl⟩, trivial⟩; conv => lhs; whnf
   congr 2
   have : i = l.length := by omega
   subst this; unfold ratsE; rw [if_neg (by omega), firstAt_zero p2]
set_option maxHeartbeats 4000000 in
theorem y161 (l : List Rat) (hk : ratOk l) : FSpec Tryz.prog 97 [.d (rats l)] [] (fun x r => x = .d (.int .i64 (ratsE l)) ∧ r = []) := by
 refine spec_of hT (C := []) Tryz.func97 rfl Tryz.call97 rfl rfl rfl ?_; conv => whnf
 refine br_intro (fun h0 => ?_) (fun h0 => ?_)
 · simp at h0; conv => whnf
   refine .ret _ ?_; conv => whnf
   refine ⟨[], ⟨?_, rfl⟩, trivial⟩; conv => lhs; whnf
   unfold ratsE; rw [if_pos (by omega)]
 simp at h0; conv => whnf
 refine LoopX.rule hT (C := []) (ι := Nat) (fun i => i ≤ l.length ∧ ∀ j, j < i → ratE l j = 0) (fun i => mkSt [(0, .d (rats l)), (11, .d (rats l)), (12, .d (.int .i64 l.length)), (13, .d (.int .i64 i))] []) (fun i => l.length - i) 0 ⟨by omega, by omega⟩ (by exact eAx []) ?_; rintro i ⟨p1, p2⟩; have hx : (i : Int) < l.length → ratK (l.getD (i : Int).toNat rat0) := fun hi => hk.2 _ (getD_mem (by omega))
 have e1 : (i : Int).toNat = i := Int.toNat_natCast i
 have hbad : ∀ e : Int, i < l.length → e ≠ 0 → ratE l i = e → ratsE l = e := fun e h h1 h2 => by
  unfold ratsE; rw [if_neg (by omega)]; exact firstAt_eq h p2 h1 h2
 conv => whnf
 repeat' (first | (refine CallX.exact (s21 _ (hx (by omega))) rfl rfl ?_; rotate_right; conv => whnf) | ((first | (refine br_intro ?_ ?_ <;> intro hb <;> try simp only [brs] at hb) | refine rAx hT 6 oQTaA97_6 ?_ | omega | refine sAx ?_ | decide | assumption) <;> conv => whnf))
 all_goals first
  | (refine ⟨i + 1, ⟨by omega, first_step p2 (by clear p2 hbad hk hx; simp only [e1, toNat_pred] at *; unfold ratE nums numO; (try simp only [min4_lt, max4_gt] at *); grind)⟩, by omega, (by exact eAx [])⟩)
  | (refine .ret _ ?_
     conv => whnf
     refine ⟨[], ⟨?_, rfl⟩, trivial⟩; conv => lhs; whnf
     congr 2
     first
      | exact (hbad _ (by omega) (by decide) (by clear p2 hbad hk hx; simp only [e1, toNat_pred] at *; unfold ratE nums numO; (try simp only [min4_lt, max4_gt] at *); grind)).symm
      | (have : i = l.length := by omega
         subst this
         unfold ratsE; rw [if_neg (by omega), firstAt_zero p2]))
def oQTaB144_8 : OL := [(0, []), (1, []), (2, []), (3, []), (4, []), (5, [3, 4]), (6, [3, 4, 5]), (7, [3, 4, 5]), (8, [3, 4]), (9, [3, 4]), (10, [3, 4]), (11, []), (12, []), (13, [])]
def oQTaB145_10 : OL := [(0, []), (1, []), (2, []), (3, []), (4, [3]), (5, [3]), (6, []), (7, []), (8, []), (9, [3, 4, 5, 6, 7, 8]), (10, [3, 4, 5, 6, 7, 8]), (12, [3, 4, 5, 6, 7, 8, 9, 10]), (13, [3, 4, 5, 6, 7, 8, 9, 10, 12]), (14, [3, 4, 5, 6, 7, 8, 9, 10, 12]), (15, [3, 4, 5, 6, 7, 8, 9, 10]), (16, [3, 4, 5, 6, 7, 8, 9, 10]), (17, [3, 4, 5, 6, 7, 8, 9, 10]), (18, [3, 4, 5, 6, 7, 8, 9, 10, 12, 13, 14, 15, 16, 17]), (19, [3, 4, 5, 6, 7, 8, 9, 10, 12, 13, 14, 15, 16, 17]), (11, [12, 13, 14, 15, 16, 17, 18, 19]), (20, []), (21, []), (22, []), (23, []), (24, []), (25, [])]
def oQTaB99_10 : OL := [(0, []), (1, []), (2, []), (3, []), (4, []), (5, [3, 4]), (6, [3, 4, 5]), (7, [3, 4, 5]), (8, [3, 4]), (9, [3, 4]), (10, [3, 4]), (11, []), (12, []), (13, []), (14, []), (15, [13, 14]), (16, [13, 14, 15]), (17, [13, 14, 15]), (18, [13, 14]), (19, [13, 14]), (20, [13, 14]), (21, []), (22, []), (23, []), (24, []), (25, [23, 24]), (26, [23, 24, 25]), (27, [23, 24, 25]), (28, [23, 24]), (29, [23, 24]), (30, [23, 24]), (31, []), (32, []), (33, []), (34, []), (35, [])]
def oQTaB146_8 : OL := [(0, []), (1, []), (2, []), (3, []), (4, []), (5, [3, 4]), (6, [3, 4, 5]), (7, [3, 4, 5]), (8, [3, 4]), (9, [3, 4]), (10, [3, 4]), (11, []), (12, []), (13, [])]
structure Ext where
 key : List UInt8
 once : Int
 dy : Int
 most : Int
def extF (x : Ext) : List DV := [.str x.key, .int .i64 x.once, .int .i64 x.dy, .int .i64 x.most]
def ext0 : Ext := ⟨[], 0, 0, 0⟩
abbrev exts (l : List Ext) : DV := seqD 4 extF ext0 l
def extE (l : List Ext) (i : Nat) : Int :=
 let x := l.getD i ext0
 if isKeyB x.key = false then 5 else if 0 < i ∧ strLe x.key (l.getD (i - 1) ext0).key = true then 7 else if ¬ ((0 ≤ x.once ∧ x.once ≤ 1000000) ∧ (0 ≤ x.dy ∧ x.dy ≤ 1000000) ∧ (-1 ≤ x.most ∧ x.most ≤ 1000000)) then 1 else 0
def extsE (l : List Ext) : Int := if 30 < l.length then 2 else firstAt (extE l) l.length
def extK (x : Ext) : Prop := x.key.length ≤ 2^40
def extOk (l : List Ext) : Prop := l.length ≤ 2^40 ∧ ∀ x ∈ l, extK x
set_option maxHeartbeats 2000000 in
theorem y150 (l : List Ext) (hk : extOk l) : FSpec Tryz.prog 144 [.d (exts l)] [] (fun x r => x = .d (.int .i64 (extsE l)) ∧ r = []) := by
 refine spec_of hT (C := []) Tryz.func144 rfl Tryz.call144 rfl rfl rfl ?_; conv => whnf
 refine br_intro (fun h0 => ?_) (fun h0 => ?_)
 · simp at h0; conv => whnf
   refine .ret _ ?_; conv => whnf
   refine ⟨[], ⟨?_, rfl⟩, trivial⟩; conv => lhs; whnf
   unfold extsE; rw [if_pos (by omega)]
 simp at h0; conv => whnf
 refine LoopX.rule hT (C := []) (ι := Nat) (fun i => i ≤ l.length ∧ ∀ j, j < i → extE l j = 0) (fun i => mkSt [(0, .d (exts l)), (8, .d (exts l)), (9, .d (.int .i64 l.length)), (10, .d (.int .i64 i))] []) (fun i => l.length - i) 0 ⟨by omega, by omega⟩ (by exact eAx []) ?_; rintro i ⟨p1, p2⟩; have hx : (i : Int) < l.length → extK (l.getD (i : Int).toNat ext0) := fun hi => hk.2 _ (getD_mem (by omega))
 have e1 : (i : Int).toNat = i := Int.toNat_natCast i
 have hbad : ∀ e : Int, i < l.length → e ≠ 0 → extE l i = e → extsE l = e := fun e h h1 h2 => by
  unfold extsE; rw [if_neg (by omega)]; exact firstAt_eq h p2 h1 h2
 conv => whnf
 repeat' (first | (refine CallX.exact (s108 _ (hx (by omega))) rfl rfl ?_; rotate_right; conv => whnf) | (refine CallX.exact (s119 _ _ _) rfl rfl ?_; rotate_right; conv => whnf) | ((first | (refine br_intro ?_ ?_ <;> intro hb <;> try simp only [brs] at hb) | refine rAx hT 8 oQTaB144_8 ?_ | omega | refine sAx ?_ | decide | assumption) <;> conv => whnf))
 all_goals first
  | (refine ⟨i + 1, ⟨by omega, first_step p2 (by clear p2 hbad hk hx; simp only [e1, toNat_pred] at *; unfold extE strLe; grind)⟩, by omega, (by exact eAx [])⟩)
  | (refine .ret _ ?_
     conv => whnf
     refine ⟨[], ⟨?_, rfl⟩, trivial⟩; conv => lhs; whnf
     congr 2
     first
      | exact (hbad _ (by omega) (by decide) (by clear p2 hbad hk hx; simp only [e1, toNat_pred] at *; unfold extE strLe; grind)).symm
      | (have : i = l.length := by omega
         subst this
         unfold extsE; rw [if_neg (by omega), firstAt_zero p2]))
set_option maxHeartbeats 2000000 in
theorem y162 (l : List Ext) (hk : extOk l) : FSpec Tryz.prog 98 [.d (exts l)] [] (fun x r => x = .d (.int .i64 (extsE l)) ∧ r = []) := by
 refine spec_of hT (C := []) Tryz.func98 rfl Tryz.call98 rfl rfl rfl ?_; conv => whnf
 refine br_intro (fun h0 => ?_) (fun h0 => ?_)
 · simp at h0; conv => whnf
   refine .ret _ ?_; conv => whnf
   refine ⟨[], ⟨?_, rfl⟩, trivial⟩; conv => lhs; whnf
   unfold extsE; rw [if_pos (by omega)]
 simp at h0; conv => whnf
 refine LoopX.rule hT (C := []) (ι := Nat) (fun i => i ≤ l.length ∧ ∀ j, j < i → extE l j = 0) (fun i => mkSt [(3, .d (.str (if i = 0 then [] else (l.getD (i - 1) ext0).key))), (9, .d (exts l)), (10, .d (.int .i64 l.length)), (11, .d (.int .i64 i))] []) (fun i => l.length - i) 0 ⟨by omega, by omega⟩ (by exact eAx []) ?_; rintro i ⟨p1, p2⟩; have hx : (i : Int) < l.length → extK (l.getD (i : Int).toNat ext0) := fun hi => hk.2 _ (getD_mem (by omega))
 have e1 : (i : Int).toNat = i := Int.toNat_natCast i
 have hbad : ∀ e : Int, i < l.length → e ≠ 0 → extE l i = e → extsE l = e := fun e h h1 h2 => by
  unfold extsE; rw [if_neg (by omega)]; exact firstAt_eq h p2 h1 h2
 conv => whnf
 repeat' (first | (refine CallX.exact (s21 _ (hx (by omega))) rfl rfl ?_; rotate_right; conv => whnf) | (refine CallX.exact (s110 _ _ _) rfl rfl ?_; rotate_right; conv => whnf) | ((first | (refine br_intro ?_ ?_ <;> intro hb <;> try simp only [brs] at hb) | omega | refine sAx ?_ | decide | assumption) <;> conv => whnf))
 all_goals first
  | (refine ⟨i + 1, ⟨by omega, first_step p2 (by clear p2 hbad hk hx; simp only [e1] at *; unfold extE strLe; grind)⟩, by omega, Entails.mk' [] rfl rfl ⟨(by rw [show (if i + 1 = 0 then ([] : List UInt8) else (l.getD (i + 1 - 1) ext0).key) = (l.getD (i : Int).toNat ext0).key from by rw [if_neg (by omega), e1, Nat.add_sub_cancel]]; exact lr), lr, lr, lr, trivial⟩ trivial⟩)
  | (refine .ret _ ?_
     conv => whnf
     refine ⟨[], ⟨?_, rfl⟩, trivial⟩; conv => lhs; whnf
     congr 2
     first
      | exact (hbad _ (by omega) (by decide) (by clear p2 hbad hk hx; simp only [e1] at *; unfold extE strLe; grind [isKey_nil, less_nil])).symm
      | (have : i = l.length := by omega
         subst this
         unfold extsE; rw [if_neg (by omega), firstAt_zero p2]))
structure Fe where
 a : List UInt8
 b : List UInt8
 cents : Int
def feF (x : Fe) : List DV := [.str x.a, .str x.b, .int .i64 x.cents]
def fe0 : Fe := ⟨[], [], 0⟩
abbrev fes (l : List Fe) : DV := seqD 3 feF fe0 l
def feE (l : List Fe) (i : Nat) : Int :=
 let x := l.getD i fe0
 let q := l.getD (i - 1) fe0
 if isKeyB x.a = false ∨ isKeyB x.b = false then 5 else if x.a = x.b then 14 else if 0 < i ∧ (Op.bytesLess x.a q.a = true ∨ (q.a = x.a ∧ strLe x.b q.b = true)) then 7 else if ¬ (0 ≤ x.cents ∧ x.cents ≤ 1000000) then 1 else 0
def fesE (l : List Fe) : Int := if 500 < l.length then 2 else firstAt (feE l) l.length
def feK (x : Fe) : Prop := x.a.length ≤ 2^40 ∧ x.b.length ≤ 2^40
def feOk (l : List Fe) : Prop := l.length ≤ 2^40 ∧ ∀ x ∈ l, feK x
set_option maxHeartbeats 2000000 in
theorem y151 (l : List Fe) (hk : feOk l) : FSpec Tryz.prog 145 [.d (fes l)] [] (fun x r => x = .d (.int .i64 (fesE l)) ∧ r = []) := by
 refine spec_of hT (C := []) Tryz.func145 rfl Tryz.call145 rfl rfl rfl ?_; conv => whnf
 refine br_intro (fun h0 => ?_) (fun h0 => ?_)
 · simp at h0; conv => whnf
   refine .ret _ ?_; conv => whnf
   refine ⟨[], ⟨?_, rfl⟩, trivial⟩; conv => lhs; whnf
   unfold fesE; rw [if_pos (by omega)]
 simp at h0; conv => whnf
 refine LoopX.rule hT (C := []) (ι := Nat) (fun i => i ≤ l.length ∧ ∀ j, j < i → feE l j = 0) (fun i => mkSt [(0, .d (fes l)), (8, .d (fes l)), (9, .d (.int .i64 l.length)), (10, .d (.int .i64 i))] []) (fun i => l.length - i) 0 ⟨by omega, by omega⟩ (by exact eAx []) ?_; rintro i ⟨p1, p2⟩; have hx : (i : Int) < l.length → feK (l.getD (i : Int).toNat fe0) := fun hi => hk.2 _ (getD_mem (by omega))
 have e1 : (i : Int).toNat = i := Int.toNat_natCast i
 have hbad : ∀ e : Int, i < l.length → e ≠ 0 → feE l i = e → fesE l = e := fun e h h1 h2 => by
  unfold fesE; rw [if_neg (by omega)]; exact firstAt_eq h p2 h1 h2
 conv => whnf
 repeat' (first | (refine CallX.exact (s108 _ (hx (by omega)).1) rfl rfl ?_; rotate_right; conv => whnf) | (refine CallX.exact (s108 _ (hx (by omega)).2) rfl rfl ?_; rotate_right; conv => whnf) | (refine CallX.exact (s119 _ _ _) rfl rfl ?_; rotate_right; conv => whnf) | (refine CallX.exact (s184 _ _) rfl rfl ?_; rotate_right; conv => whnf) | ((first | refine CallX.pure (s182 [_, _] (by simp)) ⟨SV.le_lit (by rfl) (by rfl), trivial⟩ rfl ?_ | (refine br_intro ?_ ?_ <;> intro hb <;> try simp only [brs] at hb) | refine rAx hT 10 oQTaB145_10 ?_ | omega | refine sAx ?_ | decide | assumption) <;> conv => whnf))
 all_goals first
  | (refine ⟨i + 1, ⟨by omega, first_step p2 (by clear p2 hbad hk hx; simp only [e1, toNat_pred] at *; unfold feE ; (try simp only [cmp2s_ge, cmp2s_lt] at *); grind)⟩, by omega, (by exact eAx [])⟩)
  | (refine .ret _ ?_
     conv => whnf
     refine ⟨[], ⟨?_, rfl⟩, trivial⟩; conv => lhs; whnf
     congr 2
     first
      | exact (hbad _ (by omega) (by decide) (by clear p2 hbad hk hx; simp only [e1, toNat_pred] at *; unfold feE ; (try simp only [cmp2s_ge, cmp2s_lt] at *); grind)).symm
      | (have : i = l.length := by omega
         subst this
         unfold fesE; rw [if_neg (by omega), firstAt_zero p2]))
set_option maxHeartbeats 2000000 in
theorem y163 (l : List Fe) (hk : feOk l) : FSpec Tryz.prog 99 [.d (fes l)] [] (fun x r => x = .d (.int .i64 (fesE l)) ∧ r = []) := by
 refine spec_of hT (C := []) Tryz.func99 rfl Tryz.call99 rfl rfl rfl ?_; conv => whnf
 refine br_intro (fun h0 => ?_) (fun h0 => ?_)
 · simp at h0; conv => whnf
   refine .ret _ ?_; conv => whnf
   refine ⟨[], ⟨?_, rfl⟩, trivial⟩; conv => lhs; whnf
   unfold fesE; rw [if_pos (by omega)]
 simp at h0; conv => whnf
 refine LoopX.rule hT (C := []) (ι := Nat) (fun i => i ≤ l.length ∧ ∀ j, j < i → feE l j = 0) (fun i => mkSt [(0, .d (fes l)), (8, .d (fes l)), (9, .d (.int .i64 l.length)), (10, .d (.int .i64 i))] []) (fun i => l.length - i) 0 ⟨by omega, by omega⟩ (by exact eAx []) ?_; rintro i ⟨p1, p2⟩; have hx : (i : Int) < l.length → feK (l.getD (i : Int).toNat fe0) := fun hi => hk.2 _ (getD_mem (by omega))
 have e1 : (i : Int).toNat = i := Int.toNat_natCast i
 have hbad : ∀ e : Int, i < l.length → e ≠ 0 → feE l i = e → fesE l = e := fun e h h1 h2 => by
  unfold fesE; rw [if_neg (by omega)]; exact firstAt_eq h p2 h1 h2
 conv => whnf
 repeat' (first | (refine CallX.exact (s21 _ (hx (by omega)).1) rfl rfl ?_; rotate_right; conv => whnf) | (refine CallX.exact (s21 _ (hx (by omega)).2) rfl rfl ?_; rotate_right; conv => whnf) | (refine CallX.exact (s110 _ _ _) rfl rfl ?_; rotate_right; conv => whnf) | ((first | (refine br_intro ?_ ?_ <;> intro hb <;> try simp only [brs] at hb) | refine rAx hT 10 oQTaB99_10 ?_ | omega | refine sAx ?_ | decide | assumption) <;> conv => whnf))
 all_goals first
  | (refine ⟨i + 1, ⟨by omega, first_step p2 (by clear p2 hbad hk hx; simp only [e1, toNat_pred] at *; unfold feE strLe; grind)⟩, by omega, (by exact eAx [])⟩)
  | (refine .ret _ ?_
     conv => whnf
     refine ⟨[], ⟨?_, rfl⟩, trivial⟩; conv => lhs; whnf
     congr 2
     first
      | exact (hbad _ (by omega) (by decide) (by clear p2 hbad hk hx; simp only [e1, toNat_pred] at *; unfold feE strLe; grind)).symm
      | (have : i = l.length := by omega
         subst this
         unfold fesE; rw [if_neg (by omega), firstAt_zero p2]))
structure Cod where
 key : List UInt8
 cls : List UInt8
 frm : Int
 to : Int
 days : Int
 per : Int
def codF (x : Cod) : List DV := [.str x.key, .str x.cls, .int .i64 x.frm, .int .i64 x.to, .int .i64 x.days, .int .i64 x.per]
def cod0 : Cod := ⟨[], [], 0, 0, 0, 0⟩
abbrev cods (l : List Cod) : DV := seqD 6 codF cod0 l
def codE (l : List Cod) (i : Nat) : Int :=
 let x := l.getD i cod0
 if isKeyB x.key = false then 5 else if 0 < i ∧ strLe x.key (l.getD (i - 1) cod0).key = true then 7 else if x.cls ≠ [] ∧ isKeyB x.cls = false then 5 else if ¬ ((0 ≤ x.frm ∧ x.frm ≤ x.to) ∧ x.to ≤ 4001 ∧ (1 ≤ x.days ∧ x.days ≤ 120) ∧ (1 ≤ x.per ∧ x.per ≤ 1000)) then 1 else 0
def codsE (l : List Cod) : Int := if 50 < l.length then 2 else firstAt (codE l) l.length
def codK (x : Cod) : Prop := x.key.length ≤ 2^40 ∧ x.cls.length ≤ 2^40
def codOk (l : List Cod) : Prop := l.length ≤ 2^40 ∧ ∀ x ∈ l, codK x
set_option maxHeartbeats 2000000 in
theorem y152 (l : List Cod) (hk : codOk l) : FSpec Tryz.prog 146 [.d (cods l)] [] (fun x r => x = .d (.int .i64 (codsE l)) ∧ r = []) := by
 refine spec_of hT (C := []) Tryz.func146 rfl Tryz.call146 rfl rfl rfl ?_; conv => whnf
 refine br_intro (fun h0 => ?_) (fun h0 => ?_)
 · simp at h0; conv => whnf
   refine .ret _ ?_; conv => whnf
   refine ⟨[], ⟨?_, rfl⟩, trivial⟩; conv => lhs; whnf
   unfold codsE; rw [if_pos (by omega)]
 simp at h0; conv => whnf
 refine LoopX.rule hT (C := []) (ι := Nat) (fun i => i ≤ l.length ∧ ∀ j, j < i → codE l j = 0) (fun i => mkSt [(0, .d (cods l)), (8, .d (cods l)), (9, .d (.int .i64 l.length)), (10, .d (.int .i64 i))] []) (fun i => l.length - i) 0 ⟨by omega, by omega⟩ (by exact eAx []) ?_; rintro i ⟨p1, p2⟩; have hx : (i : Int) < l.length → codK (l.getD (i : Int).toNat cod0) := fun hi => hk.2 _ (getD_mem (by omega))
 have e1 : (i : Int).toNat = i := Int.toNat_natCast i
 have hbad : ∀ e : Int, i < l.length → e ≠ 0 → codE l i = e → codsE l = e := fun e h h1 h2 => by
  unfold codsE; rw [if_neg (by omega)]; exact firstAt_eq h p2 h1 h2
 conv => whnf
 repeat' (first | (refine CallX.exact (s108 _ (hx (by omega)).1) rfl rfl ?_; rotate_right; conv => whnf) | (refine CallX.exact (s108 _ (hx (by omega)).2) rfl rfl ?_; rotate_right; conv => whnf) | (refine CallX.exact (s119 _ _ _) rfl rfl ?_; rotate_right; conv => whnf) | ((first | (refine br_intro ?_ ?_ <;> intro hb <;> try simp only [brs] at hb) | refine rAx hT 8 oQTaB146_8 ?_ | omega | refine sAx ?_ | decide | assumption) <;> conv => whnf))
 all_goals first
  | (refine ⟨i + 1, ⟨by omega, first_step p2 (by clear p2 hbad hk hx; simp only [e1, toNat_pred] at *; unfold codE strLe; grind)⟩, by omega, (by exact eAx [])⟩)
  | (refine .ret _ ?_
     conv => whnf
     refine ⟨[], ⟨?_, rfl⟩, trivial⟩; conv => lhs; whnf
     congr 2
     first
      | exact (hbad _ (by omega) (by decide) (by clear p2 hbad hk hx; simp only [e1, toNat_pred] at *; unfold codE strLe; grind)).symm
      | (have : i = l.length := by omega
         subst this
         unfold codsE; rw [if_neg (by omega), firstAt_zero p2]))
set_option maxHeartbeats 2000000 in
theorem y164 (l : List Cod) (hk : codOk l) : FSpec Tryz.prog 100 [.d (cods l)] [] (fun x r => x = .d (.int .i64 (codsE l)) ∧ r = []) := by
 refine spec_of hT (C := []) Tryz.func100 rfl Tryz.call100 rfl rfl rfl ?_; conv => whnf
 refine br_intro (fun h0 => ?_) (fun h0 => ?_)
 · simp at h0; conv => whnf
   refine .ret _ ?_; conv => whnf
   refine ⟨[], ⟨?_, rfl⟩, trivial⟩; conv => lhs; whnf
   unfold codsE; rw [if_pos (by omega)]
 simp at h0; conv => whnf
 refine LoopX.rule hT (C := []) (ι := Nat) (fun i => i ≤ l.length ∧ ∀ j, j < i → codE l j = 0) (fun i => mkSt [(3, .d (.str (if i = 0 then [] else (l.getD (i - 1) cod0).key))), (9, .d (cods l)), (10, .d (.int .i64 l.length)), (11, .d (.int .i64 i))] []) (fun i => l.length - i) 0 ⟨by omega, by omega⟩ (by exact eAx []) ?_; rintro i ⟨p1, p2⟩; have hx : (i : Int) < l.length → codK (l.getD (i : Int).toNat cod0) := fun hi => hk.2 _ (getD_mem (by omega))
 have e1 : (i : Int).toNat = i := Int.toNat_natCast i
 have hbad : ∀ e : Int, i < l.length → e ≠ 0 → codE l i = e → codsE l = e := fun e h h1 h2 => by
  unfold codsE; rw [if_neg (by omega)]; exact firstAt_eq h p2 h1 h2
 conv => whnf
 repeat' (first | (refine CallX.exact (s21 _ (hx (by omega)).1) rfl rfl ?_; rotate_right; conv => whnf) | (refine CallX.exact (s21 _ (hx (by omega)).2) rfl rfl ?_; rotate_right; conv => whnf) | (refine CallX.exact (s110 _ _ _) rfl rfl ?_; rotate_right; conv => whnf) | ((first | (refine br_intro ?_ ?_ <;> intro hb <;> try simp only [brs] at hb) | omega | refine sAx ?_ | decide | assumption) <;> conv => whnf))
 all_goals first
  | (refine ⟨i + 1, ⟨by omega, first_step p2 (by clear p2 hbad hk hx; simp only [e1] at *; unfold codE strLe; grind)⟩, by omega, Entails.mk' [] rfl rfl ⟨(by rw [show (if i + 1 = 0 then ([] : List UInt8) else (l.getD (i + 1 - 1) cod0).key) = (l.getD (i : Int).toNat cod0).key from by rw [if_neg (by omega), e1, Nat.add_sub_cancel]]; exact lr), lr, lr, lr, trivial⟩ trivial⟩)
  | (refine .ret _ ?_
     conv => whnf
     refine ⟨[], ⟨?_, rfl⟩, trivial⟩; conv => lhs; whnf
     congr 2
     first
      | exact (hbad _ (by omega) (by decide) (by clear p2 hbad hk hx; simp only [e1] at *; unfold codE strLe; grind [isKey_nil, less_nil])).symm
      | (have : i = l.length := by omega
         subst this
         unfold codsE; rw [if_neg (by omega), firstAt_zero p2]))
structure Tax where
 key : List UInt8
 per : Int
 on : List Int
 over : Bool
def taxF (x : Tax) : List DV := [.str x.key, .int .i64 x.per, ints x.on, .bool x.over]
def tax0 : Tax := ⟨[], 0, [], false⟩
abbrev taxs (l : List Tax) : DV := seqD 4 taxF tax0 l
def taxC (x : Tax) : Res := .cells 254 ((taxF x).map .d)
def txOn (l : List Int) (k : Nat) : Int := if l.getD k 0 = 5 ∨ ¬ (1 ≤ l.getD k 0 ∧ l.getD k 0 ≤ 6) then 4 else if 0 < k ∧ l.getD k 0 ≤ l.getD (k - 1) 0 then 7 else 0
def txOns (l : List Int) : Int := firstAt (txOn l) l.length
def dupT (l : List Tax) (x : Tax) : Bool := decide (0 ≤ ixF (fun i => (l.getD i tax0).key == x.key) l.length)
def taxE (l : List Tax) (i : Nat) : Int :=
 let x := l.getD i tax0
 if isKeyB x.key = false then 5 else if dupT (l.take i) x = true then 6 else if ¬ (0 ≤ x.per ∧ x.per ≤ 1000) then 1 else txOns x.on
def taxsE (l : List Tax) : Int := if 10 < l.length then 2 else firstAt (taxE l) l.length
def taxK (x : Tax) : Prop := x.key.length ≤ 2^40 ∧ x.on.length ≤ 2^40
def taxOk (l : List Tax) : Prop := l.length ≤ 2^40 ∧ ∀ x ∈ l, taxK x
theorem y229 (y x : Tax) : FSpec Tryz.prog 185 [.agg ((taxF y).map .d), .ptr 1000001 0] [(1000001, taxC x)] (fun v r => v = .d (.bool (y.key == x.key)) ∧ r = [(1000001, taxC x)]) := by
 refine spec_of hT (C := []) Tryz.func185 rfl Tryz.call185 rfl rfl rfl ?_; conv => whnf
 refine .ret _ ?_; conv => whnf
 exact ⟨[(1000001, taxC x)], ⟨rfl, rfl⟩, rr, trivial⟩
theorem y309a (l : List Tax) (hl : l.length ≤ 2^40) (x : Tax) : FSpec Tryz.prog 181 [.d (taxs l), .fn 185 [.ptr 1000001 0]] [(1000001, taxC x)] (fun v r => v = .d (.int .i64 (ixF (fun i => (l.getD i tax0).key == x.key) l.length)) ∧ r = [(1000001, taxC x)]) := by
 refine spec_of hT (C := []) Tryz.func181 rfl Tryz.call181 rfl rfl rfl ?_; conv => whnf
 refine LoopX.rule hT (C := []) (ι := Nat) (fun i => i ≤ l.length ∧ ∀ j, j < i → ((l.getD j tax0).key == x.key) = false) (fun i => mkSt [(0, .d (taxs l)), (1, .fn 185 [.ptr 1000001 0]), (7, .d (.int .i64 l.length)), (8, .d (.int .i64 i))] [(1000001, taxC x)]) (fun i => l.length - i) 0 ⟨by omega, by omega⟩ (by exact eAx [(1000001, 1000001)]) ?_; rintro i ⟨p1, p2⟩; have e1 : (i : Int).toNat = i := Int.toNat_natCast i; conv => whnf
 repeat' (first | ((first | (refine oAx (y229 (l.getD (i : Int).toNat tax0) x) [(1000001, 1000001)] ?_; rintro v rout ⟨rfl, rfl⟩; refine ⟨rfl, ?_⟩) | (refine br_intro ?_ ?_ <;> intro hb <;> try simp only [brs] at hb) | omega | refine sAx ?_ | decide | assumption) <;> conv => whnf))
 · refine .ret _ ?_; conv => whnf
   refine ⟨[(1000001, taxC x)], ⟨?_, rfl⟩, rr, trivial⟩; conv => lhs; whnf
   congr 2
   exact (ixF_hit (by omega) p2 (by simpa using hb)).symm
 · exact ⟨i + 1, ⟨by omega, all_step p2 (by simpa using hb)⟩, by omega, (by exact eAx [(1000001, 1000001)])⟩
 · refine .ret _ ?_; conv => whnf
   refine ⟨[(1000001, taxC x)], ⟨?_, rfl⟩, rr, trivial⟩; conv => lhs; whnf
   congr 2
   have : i = l.length := by omega
   subst this; exact (ixF_none p2).symm
theorem y309ac (l : List Tax) (hl : l.length ≤ 2^40) (x : Tax) : FSpec Tryz.prog 138 [.d (taxs l), .fn 185 [.ptr 1000001 0]] [(1000001, taxC x)] (fun v r => v = .d (.bool (dupT l x)) ∧ r = [(1000001, taxC x)]) := by
 refine spec_of hT (C := []) Tryz.func138 rfl Tryz.call138 rfl rfl rfl ?_; conv => whnf
 repeat' (first | ((first | (refine oAx (y309a l hl x) [(1000001, 1000001)] ?_; rintro v rout ⟨rfl, rfl⟩; refine ⟨rfl, ?_⟩) | (refine br_intro ?_ ?_ <;> intro hb <;> try simp only [brs] at hb) | omega | refine sAx ?_ | decide | assumption) <;> conv => whnf))
 refine .ret _ ?_; conv => whnf
 exact ⟨[(1000001, taxC x)], ⟨rfl, rfl⟩, rr, trivial⟩
theorem y235 (y x : Tax) : FSpec Tryz.prog 139 [.agg ((taxF y).map .d), .ptr 1000001 0] [(1000001, taxC x)] (fun v r => v = .d (.bool (y.key == x.key)) ∧ r = [(1000001, taxC x)]) := by
 refine spec_of hT (C := []) Tryz.func139 rfl Tryz.call139 rfl rfl rfl ?_; conv => whnf
 refine .ret _ ?_; conv => whnf
 exact ⟨[(1000001, taxC x)], ⟨rfl, rfl⟩, rr, trivial⟩
theorem y309b (l : List Tax) (hl : l.length ≤ 2^40) (x : Tax) : FSpec Tryz.prog 181 [.d (taxs l), .fn 139 [.ptr 1000001 0]] [(1000001, taxC x)] (fun v r => v = .d (.int .i64 (ixF (fun i => (l.getD i tax0).key == x.key) l.length)) ∧ r = [(1000001, taxC x)]) := by
 refine spec_of hT (C := []) Tryz.func181 rfl Tryz.call181 rfl rfl rfl ?_; conv => whnf
 refine LoopX.rule hT (C := []) (ι := Nat) (fun i => i ≤ l.length ∧ ∀ j, j < i → ((l.getD j tax0).key == x.key) = false) (fun i => mkSt [(0, .d (taxs l)), (1, .fn 139 [.ptr 1000001 0]), (7, .d (.int .i64 l.length)), (8, .d (.int .i64 i))] [(1000001, taxC x)]) (fun i => l.length - i) 0 ⟨by omega, by omega⟩ (by exact eAx [(1000001, 1000001)]) ?_; rintro i ⟨p1, p2⟩; have e1 : (i : Int).toNat = i := Int.toNat_natCast i; conv => whnf
 repeat' (first | ((first | (refine oAx (y235 (l.getD (i : Int).toNat tax0) x) [(1000001, 1000001)] ?_; rintro v rout ⟨rfl, rfl⟩; refine ⟨rfl, ?_⟩) | (refine br_intro ?_ ?_ <;> intro hb <;> try simp only [brs] at hb) | omega | refine sAx ?_ | decide | assumption) <;> conv => whnf))
 · refine .ret _ ?_; conv => whnf
   refine ⟨[(1000001, taxC x)], ⟨?_, rfl⟩, rr, trivial⟩; conv => lhs; whnf
   congr 2
   exact (ixF_hit (by omega) p2 (by simpa using hb)).symm
 · exact ⟨i + 1, ⟨by omega, all_step p2 (by simpa using hb)⟩, by omega, (by exact eAx [(1000001, 1000001)])⟩
 · refine .ret _ ?_; conv => whnf
   refine ⟨[(1000001, taxC x)], ⟨?_, rfl⟩, rr, trivial⟩; conv => lhs; whnf
   congr 2
   have : i = l.length := by omega
   subst this; exact (ixF_none p2).symm
theorem y309bc (l : List Tax) (hl : l.length ≤ 2^40) (x : Tax) : FSpec Tryz.prog 138 [.d (taxs l), .fn 139 [.ptr 1000001 0]] [(1000001, taxC x)] (fun v r => v = .d (.bool (dupT l x)) ∧ r = [(1000001, taxC x)]) := by
 refine spec_of hT (C := []) Tryz.func138 rfl Tryz.call138 rfl rfl rfl ?_; conv => whnf
 repeat' (first | ((first | (refine oAx (y309b l hl x) [(1000001, 1000001)] ?_; rintro v rout ⟨rfl, rfl⟩; refine ⟨rfl, ?_⟩) | (refine br_intro ?_ ?_ <;> intro hb <;> try simp only [brs] at hb) | omega | refine sAx ?_ | decide | assumption) <;> conv => whnf))
 refine .ret _ ?_; conv => whnf
 exact ⟨[(1000001, taxC x)], ⟨rfl, rfl⟩, rr, trivial⟩
theorem le_takeT {l : List Tax} {i : Nat} (h : i ≤ l.length) : SV.le (.d (.ro 4 i fun j => rowF taxF tax0 l (0 + j))) (.d (taxs (l.take i))) :=
 SV.le_ro (by rw [List.length_take]; omega) (fun j hj => by
  simp only [Nat.zero_add, rowF]
  rw [List.getD_eq_getElem?_getD, List.getD_eq_getElem?_getD, List.getElem?_take_of_lt hj])
theorem taxE_hit {l : List Tax} {i : Nat} {e : Int} (h0 : ¬ 10 < l.length) (h : i < l.length) (p : ∀ j, j < i → taxE l j = 0) (h1 : e ≠ 0) (h2 : taxE l i = e) : taxsE l = e := by
 unfold taxsE; rw [if_neg h0]; exact firstAt_eq h p h1 h2
set_option maxHeartbeats 2000000 in
theorem y153 (l : List Tax) (hk : taxOk l) : FSpec Tryz.prog 147 [.d (taxs l)] [] (fun x r => x = .d (.int .i64 (taxsE l)) ∧ r = []) := by
 refine spec_of hT (C := []) Tryz.func147 rfl Tryz.call147 rfl rfl rfl ?_; conv => whnf
 refine br_intro (fun h0 => ?_) (fun h0 => ?_)
 · simp at h0; conv => whnf
   refine .ret _ ?_; conv => whnf
   refine ⟨[], ⟨?_, rfl⟩, trivial⟩; conv => lhs; whnf
   unfold taxsE; rw [if_pos (by omega)]
 simp at h0; conv => whnf
 refine LoopX.rule hT (C := []) (ι := Nat) (fun i => i ≤ l.length ∧ ∀ j, j < i → taxE l j = 0) (fun i => mkSt [(0, .d (taxs l)), (10, .d (taxs l)), (11, .d (.int .i64 l.length)), (12, .d (.int .i64 i))] []) (fun i => l.length - i) 0 ⟨by omega, by omega⟩ (by exact eAx []) ?_; rintro i ⟨p1, p2⟩; have e1 : (i : Int).toNat = i := Int.toNat_natCast i; have hK : (i : Int) < l.length → taxK (l.getD (i : Int).toNat tax0) := fun hi => hk.2 _ (getD_mem (by omega))
 have hD := y309ac (l.take (i : Int).toNat) (by rw [List.length_take]; have := hk.1; omega) (l.getD (i : Int).toNat tax0); conv => whnf
 repeat' (first | (refine CallX.exact (s108 _ (hK (by omega)).1) rfl rfl ?_; rotate_right; conv => whnf) | (refine CallX.exact (s119 _ _ _) rfl rfl ?_; rotate_right; conv => whnf) | ((first | (refine CallX.of hD [(1000001, 4)] rfl ⟨le_takeT (by omega), lr, trivial⟩ ⟨rr, trivial⟩ rfl rfl ?_; rintro v rout ⟨rfl, rfl⟩; refine ⟨rfl, ?_⟩) | (refine br_intro ?_ ?_ <;> intro hb <;> try simp only [brs] at hb) | omega | refine sAx ?_ | decide | assumption) <;> conv => whnf))
 · refine .ret _ ?_; conv => whnf
   refine ⟨[], ⟨?_, rfl⟩, trivial⟩; conv => lhs; whnf
   congr 2
   exact (taxE_hit (by omega) (by omega) p2 (by decide) (by clear p2 hD hk hK; simp only [e1] at *; unfold taxE; grind)).symm
 · refine .ret _ ?_; conv => whnf
   refine ⟨[], ⟨?_, rfl⟩, trivial⟩; conv => lhs; whnf
   congr 2
   exact (taxE_hit (by omega) (by omega) p2 (by decide) (by clear p2 hD hk hK; simp only [e1] at *; unfold taxE; grind)).symm
 · refine .ret _ ?_; conv => whnf
   refine ⟨[], ⟨?_, rfl⟩, trivial⟩; conv => lhs; whnf
   congr 2
   exact (taxE_hit (by omega) (by omega) p2 (by decide) (by clear p2 hD hk hK; simp only [e1] at *; unfold taxE; grind)).symm
 · have hi : i < l.length := by omega
   have hT1 : taxE l i = txOns (l.getD (i : Int).toNat tax0).on := by clear p2 hD hk hK; simp only [e1] at *; unfold taxE; grind
   obtain ⟨X, hX⟩ : ∃ X, X = l.getD (i : Int).toNat tax0 := ⟨_, rfl⟩; have hXl : X.on.length ≤ 2^40 := by rw [hX]; exact (hK (by omega)).2
   rw [← hX] at hT1; refine LoopX.rule hT (C := []) (ι := Nat) (fun k => k ≤ X.on.length ∧ ∀ j, j < k → txOn X.on j = 0) (fun k => mkSt [(0, .d (taxs l)), (4, .ptr 4 0), (10, .d (taxs l)), (11, .d (.int .i64 l.length)), (12, .d (.int .i64 i)), (34, .d (ints X.on)), (35, .d (.int .i64 X.on.length)), (36, .d (.int .i64 k))] [(4, taxC X)]) (fun k => X.on.length - k) 0 ⟨by omega, by omega⟩ (by subst hX; exact (by exact eAx [(4, 4)])) ?_; rintro k ⟨q1, q2⟩; have e2 : (k : Int).toNat = k := Int.toNat_natCast k; have hbad : ∀ e : Int, k < X.on.length → e ≠ 0 → txOn X.on k = e → taxsE l = e := fun e h h1 h2 => taxE_hit (by omega) hi p2 h1 (by rw [hT1]; exact firstAt_eq h q2 h1 h2)
   clear hD hK hk; conv => whnf
   repeat' (first | (refine CallX.exact (s119 _ _ _) rfl rfl ?_; rotate_right; conv => whnf) | ((first | (refine br_intro ?_ ?_ <;> intro hb <;> try simp only [brs] at hb) | omega | refine sAx ?_ | decide | assumption) <;> conv => whnf))
   all_goals first
    | (refine ⟨k + 1, ⟨by omega, first_step q2 (by clear p2 q2 hbad hT1 hX; simp only [e2, toNat_pred] at *; unfold txOn; grind)⟩, by omega, (by exact eAx [(4, 4)])⟩)
    | (refine .ret _ ?_
       conv => whnf
       refine ⟨[], ⟨?_, rfl⟩, trivial⟩; conv => lhs; whnf
       congr 2
       exact (hbad _ (by omega) (by decide) (by clear p2 q2 hbad hT1 hX; simp only [e2, toNat_pred] at *; unfold txOn; grind)).symm)
    | (refine ⟨i + 1, ⟨by omega, first_step p2 ?_⟩, by omega, (by exact eAx [])⟩
       rw [hT1]; have : k = X.on.length := by omega
       subst this
       exact firstAt_zero q2)
 · refine .ret _ ?_; conv => whnf
   refine ⟨[], ⟨?_, rfl⟩, trivial⟩; conv => lhs; whnf
   congr 2
   have : i = l.length := by omega
   subst this; unfold taxsE; rw [if_neg (by omega), firstAt_zero p2]
set_option maxHeartbeats 2000000 in
theorem y165 (l : List Tax) (hk : taxOk l) : FSpec Tryz.prog 101 [.d (taxs l)] [] (fun x r => x = .d (.int .i64 (taxsE l)) ∧ r = []) := by
 refine spec_of hT (C := []) Tryz.func101 rfl Tryz.call101 rfl rfl rfl ?_; conv => whnf
 refine br_intro (fun h0 => ?_) (fun h0 => ?_)
 · simp at h0; conv => whnf
   refine .ret _ ?_; conv => whnf
   refine ⟨[], ⟨?_, rfl⟩, trivial⟩; conv => lhs; whnf
   unfold taxsE; rw [if_pos (by omega)]
 simp at h0; conv => whnf
 refine LoopX.rule hT (C := []) (ι := Nat) (fun i => i ≤ l.length ∧ ∀ j, j < i → taxE l j = 0) (fun i => mkSt [(0, .d (taxs l)), (10, .d (taxs l)), (11, .d (.int .i64 l.length)), (12, .d (.int .i64 i))] []) (fun i => l.length - i) 0 ⟨by omega, by omega⟩ (by exact eAx []) ?_; rintro i ⟨p1, p2⟩; have e1 : (i : Int).toNat = i := Int.toNat_natCast i; have hK : (i : Int) < l.length → taxK (l.getD (i : Int).toNat tax0) := fun hi => hk.2 _ (getD_mem (by omega))
 have hD := y309bc (l.take (i : Int).toNat) (by rw [List.length_take]; have := hk.1; omega) (l.getD (i : Int).toNat tax0); conv => whnf
 repeat' (first | (refine CallX.exact (s21 _ (hK (by omega)).1) rfl rfl ?_; rotate_right; conv => whnf) | (refine CallX.exact (s110 _ _ _) rfl rfl ?_; rotate_right; conv => whnf) | ((first | (refine CallX.of hD [(1000001, 4)] rfl ⟨le_takeT (by omega), lr, trivial⟩ ⟨rr, trivial⟩ rfl rfl ?_; rintro v rout ⟨rfl, rfl⟩; refine ⟨rfl, ?_⟩) | (refine br_intro ?_ ?_ <;> intro hb <;> try simp only [brs] at hb) | omega | refine sAx ?_ | decide | assumption) <;> conv => whnf))
 · refine .ret _ ?_; conv => whnf
   refine ⟨[], ⟨?_, rfl⟩, trivial⟩; conv => lhs; whnf
   congr 2
   exact (taxE_hit (by omega) (by omega) p2 (by decide) (by clear p2 hD hk hK; simp only [e1] at *; unfold taxE; grind)).symm
 · refine .ret _ ?_; conv => whnf
   refine ⟨[], ⟨?_, rfl⟩, trivial⟩; conv => lhs; whnf
   congr 2
   exact (taxE_hit (by omega) (by omega) p2 (by decide) (by clear p2 hD hk hK; simp only [e1] at *; unfold taxE; grind)).symm
 · refine .ret _ ?_; conv => whnf
   refine ⟨[], ⟨?_, rfl⟩, trivial⟩; conv => lhs; whnf
   congr 2
   exact (taxE_hit (by omega) (by omega) p2 (by decide) (by clear p2 hD hk hK; simp only [e1] at *; unfold taxE; grind)).symm
 · have hi : i < l.length := by omega
   have hT1 : taxE l i = txOns (l.getD (i : Int).toNat tax0).on := by clear p2 hD hk hK; simp only [e1] at *; unfold taxE; grind
   obtain ⟨X, hX⟩ : ∃ X, X = l.getD (i : Int).toNat tax0 := ⟨_, rfl⟩; have hXl : X.on.length ≤ 2^40 := by rw [hX]; exact (hK (by omega)).2
   rw [← hX] at hT1; refine LoopX.rule hT (C := []) (ι := Nat) (fun k => k ≤ X.on.length ∧ ∀ j, j < k → txOn X.on j = 0) (fun k => mkSt [(0, .d (taxs l)), (4, .ptr 4 0), (10, .d (taxs l)), (11, .d (.int .i64 l.length)), (12, .d (.int .i64 i)), (34, .d (ints X.on)), (35, .d (.int .i64 X.on.length)), (36, .d (.int .i64 k))] [(4, taxC X)]) (fun k => X.on.length - k) 0 ⟨by omega, by omega⟩ (by subst hX; exact (by exact eAx [(4, 4)])) ?_; rintro k ⟨q1, q2⟩; have e2 : (k : Int).toNat = k := Int.toNat_natCast k; have hbad : ∀ e : Int, k < X.on.length → e ≠ 0 → txOn X.on k = e → taxsE l = e := fun e h h1 h2 => taxE_hit (by omega) hi p2 h1 (by rw [hT1]; exact firstAt_eq h q2 h1 h2)
   clear hD hK hk; conv => whnf
   repeat' (first | (refine CallX.exact (s110 _ _ _) rfl rfl ?_; rotate_right; conv => whnf) | ((first | (refine br_intro ?_ ?_ <;> intro hb <;> try simp only [brs] at hb) | omega | refine sAx ?_ | decide | assumption) <;> conv => whnf))
   all_goals first
    | (refine ⟨k + 1, ⟨by omega, first_step q2 (by clear p2 q2 hbad hT1 hX; simp only [e2, toNat_pred] at *; unfold txOn; grind)⟩, by omega, (by exact eAx [(4, 4)])⟩)
    | (refine .ret _ ?_
       conv => whnf
       refine ⟨[], ⟨?_, rfl⟩, trivial⟩; conv => lhs; whnf
       congr 2
       exact (hbad _ (by omega) (by decide) (by clear p2 q2 hbad hT1 hX; simp only [e2, toNat_pred] at *; unfold txOn; grind)).symm)
    | (refine ⟨i + 1, ⟨by omega, first_step p2 ?_⟩, by omega, (by exact eAx [])⟩
       rw [hT1]; have : k = X.on.length := by omega
       subst this
       exact firstAt_zero q2)
 · refine .ret _ ?_; conv => whnf
   refine ⟨[], ⟨?_, rfl⟩, trivial⟩; conv => lhs; whnf
   congr 2
   have : i = l.length := by omega
   subst this; unfold taxsE; rw [if_neg (by omega), firstAt_zero p2]
def oQTaD110_1 : OL := [(0, []), (1, []), (3, [0, 1]), (4, [0, 1]), (6, [0, 1, 3, 4]), (7, [0, 1, 3, 4]), (9, [0, 1, 3, 4, 6, 7]), (10, [0, 1, 3, 4, 6, 7]), (12, [0, 1, 3, 4, 6, 7, 9, 10]), (13, [0, 1, 3, 4, 6, 7, 9, 10]), (2, [3, 4, 6, 7, 9, 10, 12, 13]), (5, [6, 7, 9, 10, 12, 13]), (8, [9, 10, 12, 13]), (11, [12, 13]), (14, []), (15, []), (16, []), (17, [])]
def oQTaD55_1 : OL := [(0, []), (1, []), (3, [0, 1]), (4, [0, 1]), (6, [0, 1, 3, 4]), (7, [0, 1, 3, 4]), (9, [0, 1, 3, 4, 6, 7]), (10, [0, 1, 3, 4, 6, 7]), (12, [0, 1, 3, 4, 6, 7, 9, 10]), (13, [0, 1, 3, 4, 6, 7, 9, 10]), (17, [0, 1, 3, 4, 6, 7, 9, 10, 12, 13]), (2, [3, 4, 6, 7, 9, 10, 12, 13, 17]), (5, [6, 7, 9, 10, 12, 13, 17]), (8, [9, 10, 12, 13, 17]), (11, [12, 13, 17]), (14, [17]), (15, [17]), (16, [17])]
def oQTaD66_1 : OL := [(0, []), (1, []), (3, [0, 1]), (4, [0, 1]), (6, [0, 1, 3, 4]), (7, [0, 1, 3, 4]), (2, [3, 4, 6, 7]), (5, [6, 7]), (8, []), (9, []), (10, []), (11, [])]
structure Tar where
 rat : List Rat
 ext : List Ext
 fe : List Fe
 cod : List Cod
 tax : List Tax
def tarL (t : Tar) : List SV := [.d (rats t.rat), .d (exts t.ext), .d (fes t.fe), .d (cods t.cod), .d (taxs t.tax)]
def tarOk (t : Tar) : Prop := ratOk t.rat ∧ extOk t.ext ∧ feOk t.fe ∧ codOk t.cod ∧ taxOk t.tax
def tarE (t : Tar) : Int := firstE [ratsE t.rat, extsE t.ext, fesE t.fe, codsE t.cod, taxsE t.tax]
structure Dea where
 free : Int
 km : Int
 eig : Int
 grc : Int
 hr : Int
 dy : Int
 dep : Int
def deaF (d : Dea) : List DV := [.int .i64 d.free, .int .i64 d.km, .int .i64 d.eig, .int .i64 d.grc, .int .i64 d.hr, .int .i64 d.dy, .int .i64 d.dep]
def deaE (d : Dea) : Int := if (0 ≤ d.free ∧ d.free ≤ 10000) ∧ (0 ≤ d.km ∧ d.km ≤ 100000) ∧ (0 ≤ d.eig ∧ d.eig ≤ 100000) ∧ (0 ≤ d.grc ∧ d.grc ≤ 1440) ∧ (0 ≤ d.hr ∧ d.hr ≤ 1000000) ∧ (0 ≤ d.dy ∧ d.dy ≤ 1000000) ∧ (0 ≤ d.dep ∧ d.dep ≤ 1000000) then 0 else 1
theorem firstE_hit : ∀ {R : List Int} {i : Nat}, i < R.length → (∀ j, j < i → R.getD j 0 = 0) → R.getD i 0 ≠ 0 → firstE R = R.getD i 0
 | [], i, h, _, _ => by simp at h
 | x :: R, 0, _, _, h => by simp only [List.getD_cons_zero] at h ⊢; rw [firstE, if_neg h]
 | x :: R, i + 1, h, p, q => by
   have h0 : x = 0 := p 0 (by omega); simp only [List.getD_cons_succ] at q ⊢; rw [firstE, if_pos h0]; exact firstE_hit (by simpa using h) (fun j hj => by have := p (j + 1) (by omega); simpa using this) q
theorem firstE_none : ∀ {R : List Int}, (∀ j, j < R.length → R.getD j 0 = 0) → firstE R = 0
 | [], _ => rfl
 | x :: R, p => by
   have h0 : x = 0 := p 0 (by simp); rw [firstE, if_pos h0]; exact firstE_none (fun j hj => by have := p (j + 1) (by simpa using hj); simpa using this)
theorem y81 (t : Tar) (hk : tarOk t) : FSpec Tryz.prog 110 [.agg (tarL t)] [] (fun x r => x = .d (.int .i64 (tarE t)) ∧ r = []) := by
 refine spec_of hT (C := []) Tryz.func110 rfl Tryz.call110 rfl rfl rfl ?_; conv => whnf
 repeat' (first | (refine CallX.exact (y149 _ hk.1) rfl rfl ?_; rotate_right; conv => whnf) | (refine CallX.exact (y150 _ hk.2.1) rfl rfl ?_; rotate_right; conv => whnf) | (refine CallX.exact (y151 _ hk.2.2.1) rfl rfl ?_; rotate_right; conv => whnf) | (refine CallX.exact (y152 _ hk.2.2.2.1) rfl rfl ?_; rotate_right; conv => whnf) | (refine CallX.exact (y153 _ hk.2.2.2.2) rfl rfl ?_; rotate_right; conv => whnf) | ((first | refine CallX.pure (s105 [_, _, _, _, _] (by simp)) ⟨SV.le_lit (by rfl) (by rfl), trivial⟩ rfl ?_ | (refine br_intro ?_ ?_ <;> intro hb <;> try simp only [brs] at hb) | refine rAx hT 1 oQTaD110_1 ?_ | omega | refine sAx ?_ | decide | assumption) <;> conv => whnf))
 refine .ret _ ?_; conv => whnf
 refine ⟨[], ⟨?_, rfl⟩, trivial⟩; conv => lhs; whnf
 rfl
theorem y84 (t : Tar) (hk : tarOk t) : FSpec Tryz.prog 55 [.agg (tarL t)] [] (fun x r => x = .d (.int .i64 (tarE t)) ∧ r = []) := by
 have h1 := y161 _ hk.1; have h2 := y162 _ hk.2.1; have h3 := y163 _ hk.2.2.1; have h4 := y164 _ hk.2.2.2.1; have h5 := y165 _ hk.2.2.2.2; unfold tarE; generalize ratsE t.rat = r1 at h1 ⊢; generalize extsE t.ext = r2 at h2 ⊢; generalize fesE t.fe = r3 at h3 ⊢; generalize codsE t.cod = r4 at h4 ⊢; generalize taxsE t.tax = r5 at h5 ⊢; refine spec_of hT (C := []) Tryz.func55 rfl Tryz.call55 rfl rfl rfl ?_; conv => whnf
 repeat' (first | (refine CallX.exact (h1) rfl rfl ?_; rotate_right; conv => whnf) | (refine CallX.exact (h2) rfl rfl ?_; rotate_right; conv => whnf) | (refine CallX.exact (h3) rfl rfl ?_; rotate_right; conv => whnf) | (refine CallX.exact (h4) rfl rfl ?_; rotate_right; conv => whnf) | (refine CallX.exact (h5) rfl rfl ?_; rotate_right; conv => whnf) | ((first | (refine br_intro ?_ ?_ <;> intro hb <;> try simp only [brs] at hb) | refine rAx hT 1 oQTaD55_1 ?_ | omega | refine sAx ?_ | decide | assumption) <;> conv => whnf))
 obtain ⟨R, hR⟩ : ∃ R : List Int, R = [r1, r2, r3, r4, r5] := ⟨_, rfl⟩; have hRl : R.length = 5 := by rw [hR]; rfl
 rw [← hR]; refine LoopX.rule hT (C := []) (ι := Nat) (fun i => i ≤ 5 ∧ ∀ j, j < i → R.getD j 0 = 0) (fun i => mkSt [(20, .d (ints R)), (21, .d (.int .i64 5)), (22, .d (.int .i64 i))] []) (fun i => 5 - i) 0 ⟨by omega, by omega⟩ (by subst hR; exact (by (refine Entails.mk' [] rfl rfl ?_ ?_ <;> repeat' (first | exact True.intro | exact lr | exact rr | (exact SV.le_lit rfl rfl) | exact SV.le_int (by omega) | exact SV.le_any _ | refine And.intro ?_ ?_)); done)) ?_; rintro i ⟨p1, p2⟩; have e1 : (i : Int).toNat = i := Int.toNat_natCast i; conv => whnf
 repeat' (first | ((first | (refine br_intro ?_ ?_ <;> intro hb <;> try simp only [brs] at hb) | refine rAx hT 1 oQTaD55_1 ?_ | omega | refine sAx ?_ | decide | assumption) <;> conv => whnf))
 · refine .ret _ ?_; conv => whnf
   refine ⟨[], ⟨?_, rfl⟩, trivial⟩; conv => lhs; whnf
   congr 2
   exact (firstE_hit (by omega) p2 hb).symm
 · exact ⟨i + 1, ⟨by omega, all_step p2 hb⟩, by omega, (by exact eAx [])⟩
 · refine .ret _ ?_; conv => whnf
   refine ⟨[], ⟨?_, rfl⟩, trivial⟩; conv => lhs; whnf
   congr 2
   exact (firstE_none (fun j hj => p2 j (by omega))).symm
theorem y82 (d : Dea) : FSpec Tryz.prog 111 [.agg ((deaF d).map .d)] [] (fun x r => x = .d (.int .i64 (deaE d)) ∧ r = []) := by
 refine spec_of hT (C := []) Tryz.func111 rfl Tryz.call111 rfl rfl rfl ?_; conv => whnf
 repeat' (first | (refine CallX.exact (s119 _ _ _) rfl rfl ?_; rotate_right; conv => whnf) | (refine CallX.exact (s107 _ _) rfl rfl ?_; rotate_right; conv => whnf) | ((first | (refine br_intro ?_ ?_ <;> intro hb <;> try simp only [brs] at hb) | omega | refine sAx ?_ | decide | assumption) <;> conv => whnf))
 all_goals
  refine .ret _ ?_; conv => whnf
  refine ⟨[], ⟨?_, rfl⟩, trivial⟩; conv => lhs; whnf
  congr 2
  unfold deaE; grind
theorem y85 (d : Dea) : FSpec Tryz.prog 58 [.agg ((deaF d).map .d)] [] (fun x r => x = .d (.int .i64 (deaE d)) ∧ r = []) := by
 refine spec_of hT (C := []) Tryz.func58 rfl Tryz.call58 rfl rfl rfl ?_; conv => whnf
 repeat' (first | (refine CallX.exact (s110 _ _ _) rfl rfl ?_; rotate_right; conv => whnf) | ((first | (refine br_intro ?_ ?_ <;> intro hb <;> try simp only [brs] at hb) | omega | refine sAx ?_ | decide | assumption) <;> conv => whnf))
 all_goals
  refine .ret _ ?_; conv => whnf
  refine ⟨[], ⟨?_, rfl⟩, trivial⟩; conv => lhs; whnf
  congr 2
  unfold deaE; grind
structure Hou where
 flt : Flt
 tar : Tar
 dea : Dea
def fltL (f : Flt) : List SV := [.d (stas f.sta), .d (clss f.cls), .d (vehs f.veh), .d (plts f.plt)]
def hou (h : Hou) : SV := .agg (fltL h.flt ++ tarL h.tar ++ (deaF h.dea).map .d)
def houOk (h : Hou) : Prop := fltOk h.flt ∧ tarOk h.tar
def houE (h : Hou) : Int := firstE [fltE h.flt, tarE h.tar, deaE h.dea]
theorem y20h (h : Hou) (hk : houOk h) : FSpec Tryz.prog 66 [hou h] [] (fun x r => x = .d (.int .i64 (houE h)) ∧ r = []) := by
 refine spec_of hT (C := []) Tryz.func66 rfl Tryz.call66 rfl rfl rfl ?_; conv => whnf
 repeat' (first | (refine CallX.exact (z114 h.flt hk.1) rfl rfl ?_; rotate_right; conv => whnf) | (refine CallX.exact (y81 h.tar hk.2) rfl rfl ?_; rotate_right; conv => whnf) | (refine CallX.exact (y82 h.dea) rfl rfl ?_; rotate_right; conv => whnf) | ((first | refine CallX.pure (s105 [_, _, _] (by simp)) ⟨SV.le_lit (by rfl) (by rfl), trivial⟩ rfl ?_ | (refine br_intro ?_ ?_ <;> intro hb <;> try simp only [brs] at hb) | refine rAx hT 1 oQTaD66_1 ?_ | omega | refine sAx ?_ | decide | assumption) <;> conv => whnf))
 refine .ret _ ?_; conv => whnf
 refine ⟨[], ⟨?_, rfl⟩, trivial⟩; conv => lhs; whnf
 rfl
end Go.Proofs.YtophabkpfpbadaaGreatDoor
namespace Go.Proofs
open Go.Shelf
def Tryz.laysGrowE_ren : Go.Shelf.Ren := ⟨fun | 4 => 83 | n => n, fun | 22 => 44 | 25 => 52 | 3 => 3 | 4 => 4 | 9 => 9 | 20 => 20 | 0 => 0 | n => n, fun | n => n⟩
theorem Tryz.laysGrowE : Go.Proofs.Lays8.n4 Tryz.prog Tryz.laysGrowE_ren := {
 mixed := by kernel_rfl
 f4 := ⟨Tryz.f83.name, by decide, Tryz.func83.trans (congrArg some (by kernel_rfl))⟩
 t0 := Tryz.underlying0
 a0 := Tryz.isAgg0
 z0 := Tryz.sizeOf0
 v0 := Tryz.zeroValue0
 t3 := Tryz.underlying3
 a3 := Tryz.isAgg3
 z3 := Tryz.sizeOf3
 v3 := Tryz.zeroValue3
 t4 := Tryz.underlying4
 a4 := Tryz.isAgg4
 z4 := Tryz.sizeOf4
 v4 := Tryz.zeroValue4
 t9 := Tryz.underlying9
 a9 := Tryz.isAgg9
 z9 := Tryz.sizeOf9
 v9 := Tryz.zeroValue9
 t20 := Tryz.underlying20
 a20 := Tryz.isAgg20
 z20 := Tryz.sizeOf20
 v20 := Tryz.zeroValue20
 t22 := Tryz.underlying44
 a22 := Tryz.isAgg44
 z22 := Tryz.sizeOf44
 v22 := Tryz.zeroValue44 }
end Go.Proofs
set_option maxRecDepth 20000
namespace Go.Proofs.YtophabkpfpbadaaGreatDoor
open Go Go.Eng Go.RowKit
structure Ent where
 tm : Int
 desk : List UInt8
 no : Int
 words : List UInt8
def enF : Ent → List DV := fun x => [.int .i64 x.tm, .str x.desk, .int .i64 x.no, .str x.words]
def en0 : Ent := ⟨0, [], 0, []⟩
abbrev ents (l : List Ent) : DV := seqD 4 enF en0 l
theorem sGrowE (n : Nat) (hn : n ≤ 2^20) : FSpec Tryz.prog 83 [.d .nilsl, .d (.int .i64 n)] [] (fun y r => y = .buf 1000001 ∧ r = [(1000001, .buf 52 4 0 fun _ => [])]) := by
 refine FSpec.ofRow (by decide) Tryz.call83 (fun G β w vs _ hl hd => ?_)
 match vs, hl with
 | [u, v], _ =>
   have hu := hd 0 _ _ rfl rfl; have hv := hd 1 _ _ rfl rfl
   cases hu with | d _ _ hu => cases hu with | nilsl =>
   cases hv with | d _ _ hv => cases hv with | int _ _ =>
   by_cases h0 : n = 0
   · subst h0; refine (Go.Proofs.Any8.slices_Grow_room Go.Proofs.Tryz.laysGrowE none 0 0 0 w (by decide) (by decide) (by decide) (by decide)).mono ?_; rintro e w' ⟨rfl, rfl⟩; exact ⟨Below.refl _ _, _, rfl, .inl rfl⟩
   · obtain ⟨_, inf, hi, hsz, hby, hz⟩ := hT.get (t := 52) (i := (T 52).get rfl) rfl; have hg1 := grownCap_ge w (0 + n) 0 52; have hg2 := grownCap_le_maxLen w (0 + n) 0 52 (by simp only [maxLen]; omega); refine (Go.Proofs.Any8.slices_Grow_grow Go.Proofs.Tryz.laysGrowE inf _ hi hz (by rw [hsz]; decide) none 0 0 n [] w (Nat.le_refl _) (by omega) (by rw [hby]; show (0 + n) * 48 ≤ _; omega) (by omega) (by simp) (fun _ => rfl) (fun a h => by cases h)).mono ?_; rintro e w' ⟨rfl, rfl⟩; refine ⟨⟨rfl, rfl, rfl, ?_, fun b hb => ?_⟩, _, rfl, .inr ⟨_, _, _, rfl, Nat.le_refl _, Array.getElem?_push_size, hg2, ?_⟩⟩
     · show w.heap.size ≤ (w.heap.push _).size; rw [Array.size_push]; omega
     · show (w.heap.push _)[b]? = w.heap[b]?; rw [Array.getElem?_push]; exact if_neg (by omega)
     · rw [Array.size_append, Array.size_append, size_zeroCells, size_zeroCells]; show 0 + (0 + n - 0) * 4 + (grownCap w (0 + n) 0 52 - (0 + n)) * 4 = grownCap w (0 + n) 0 52 * 4; omega
def oQDRdB40_16 : OL := [(0, []), (1, []), (2, []), (3, []), (4, [3]), (5, [3]), (6, []), (7, []), (8, [3, 4, 5, 6, 7]), (9, []), (10, []), (11, []), (12, [])]
def oQDRdB126_4 : OL := [(0, []), (1, [0]), (2, []), (3, []), (4, []), (5, [4]), (6, [4, 5]), (7, [4]), (8, [4]), (9, [4, 5, 6, 7, 8]), (10, [4, 5, 6, 7, 8, 9]), (11, [4, 5, 6, 7, 8, 9]), (12, [4, 5, 6, 7, 8]), (13, [4, 5, 6, 7, 8]), (14, []), (15, []), (16, [])]
def oQDRdB126_6 : OL := [(0, []), (1, [0]), (2, [0, 1]), (3, [0, 1, 2]), (4, [0, 1, 2]), (5, rg 5), (6, rg 6), (7, rg 6), (8, rg 5), (9, rg 5), (10, rg 10), (11, rg 11), (12, rg 10), (13, rg 10), (14, [2, 3, 4]), (15, [2, 3, 4]), (16, []), (17, [])]
def oQDRdB47_6 : OL := [(0, []), (1, [0]), (2, []), (3, []), (4, rg 4), (5, rg 5), (6, rg 5), (7, rg 4), (8, rg 4), (9, [])]
def oQDRdB47_11 : OL := [(0, []), (1, [0]), (2, []), (3, []), (4, rg 4), (5, rg 5), (6, rg 5), (7, rg 4), (8, rg 4), (9, [])]
def esF : List Ent → List DV := fun l => [ents l]
abbrev entss (l : List (List Ent)) : DV := seqD 1 esF [] l
def lensE (l : List (List Ent)) : Nat := (l.map List.length).sum
theorem lensE_take {l : List (List Ent)} {i : Nat} (h : i < l.length) : lensE (l.take (i + 1)) = lensE (l.take i) + (l.getD i []).length := by
 unfold lensE; rw [take_snocD (d := []) h]; simp
theorem lensE_le {l : List (List Ent)} {i : Nat} : lensE (l.take i) ≤ lensE l := by
 have h := congrArg lensE (List.take_append_drop i l); have h2 : lensE (l.take i ++ l.drop i) = lensE (l.take i) + lensE (l.drop i) := by unfold lensE; rw [List.map_append, List.sum_append]
 omega
theorem flat_lenE (l : List (List Ent)) : l.flatten.length = lensE l := by
 unfold lensE; rw [List.length_flatten]
theorem sConcatE (l : List (List Ent)) (hl : l.length ≤ 2^20) (hn : lensE l ≤ 2^20) :
 FSpec Tryz.prog 41 [.d (entss l)] [] (fun y r => y = .buf 6 ∧ r = [(6, seqB 52 4 enF en0 l.flatten)]) := by
 refine spec_of hT (C := []) Tryz.func41 rfl Tryz.call41 rfl rfl rfl ?_; conv => whnf
 refine LoopX.rule hT (C := []) (ι := Nat) (fun i => i ≤ l.length) (fun i => mkSt [(0, .d (entss l)), (3, .d (.int .i64 (lensE (l.take i)))), (9, .d (entss l)), (10, .d (.int .i64 l.length)), (11, .d (.int .i64 i))] []) (fun i => l.length - i) 0 (by omega) (by exact eAx []) ?_; rintro i p1; have e1 : (i : Int).toNat = i := Int.toNat_natCast i; have hls : lensE (l.take i) ≤ lensE l := lensE_le; have hls2 : i < l.length → lensE (l.take i) + (l.getD (i : Int).toNat []).length ≤ lensE l := fun h => by rw [e1, ← lensE_take h]; exact lensE_le
 conv => whnf
 repeat' (first | ((first | (refine br_intro ?_ ?_ <;> intro hb <;> try simp only [brs] at hb) | omega | refine sAx ?_ | decide | assumption) <;> conv => whnf))
 · refine ⟨i + 1, by omega, by omega, Entails.mk' [] rfl rfl ⟨lr, SV.le_int ?_, lr, lr, lr, trivial⟩ trivial⟩; rw [lensE_take (by omega), e1]; omega
 have hi : i = l.length := by omega
 subst hi; rw [List.take_length] at *; refine oAx (sGrowE (lensE l) hn) [(1000001, 24)] ?_; rintro x rout ⟨rfl, rfl⟩; refine ⟨rfl, ?_⟩; conv => whnf
 repeat' (first | ((first | (refine br_intro ?_ ?_ <;> intro hb <;> try simp only [brs] at hb) | omega | refine sAx ?_ | decide | assumption) <;> conv => whnf))
 refine LoopX.rule hT (C := []) (ι := Nat) (fun i => i ≤ l.length) (fun i => mkSt [(6, .buf 6), (25, .d (entss l)), (26, .d (.int .i64 l.length)), (27, .d (.int .i64 i))] [(6, seqB 52 4 enF en0 (l.take i).flatten)]) (fun i => l.length - i) 0 (by omega) ?_ ?_
 · exact Entails.mk' [(6, 24)] rfl rfl ⟨lr, lr, lr, lr, trivial⟩ ⟨Res.le_buf rfl (fun i hi => absurd hi (by omega)), trivial⟩
 rintro i p1; have e1 : (i : Int).toNat = i := Int.toNat_natCast i; have hls : lensE (l.take i) ≤ lensE l := lensE_le; have hf := flat_lenE (l.take i); have hls2 : (i : Int) < l.length → (l.take i).flatten.length + (l.getD (i : Int).toNat []).length ≤ 2^20 := fun h => by rw [e1, hf, ← lensE_take (by omega)]; exact Nat.le_trans lensE_le hn
 conv => whnf
 repeat' (first | ((first | (refine br_intro ?_ ?_ <;> intro hb <;> try simp only [brs] at hb) | omega | refine sAx ?_ | decide | assumption) <;> conv => whnf))
 · have e2 : (l.take (i + 1)).flatten = (l.take i).flatten ++ l.getD (i : Int).toNat [] := by rw [take_snocD (d := []) (by omega), e1]; simp
   refine ⟨i + 1, by omega, by omega, Entails.mk' [(6, 33)] rfl rfl ⟨lr, lr, lr, lr, trivial⟩ ⟨?_, trivial⟩⟩; rw [e2]; exact Res.le_appF
 · have hi : i = l.length := by omega
   subst hi; refine .ret _ ?_; conv => whnf
   refine ⟨_, ⟨rfl, rfl⟩, ?_, trivial⟩; rw [List.take_length]; exact rr
def e1 : Ent := ⟨1, [100], 1, [120]⟩
theorem sPrinted1 : FSpec Tryz.prog 82 [.d (.str [120])] [] (fun x r => x = .d (.bool true) ∧ r = []) := by
 refine spec_of hT (C := []) Tryz.func82 rfl Tryz.call82 rfl rfl rfl ?_; conv => whnf
 repeat' (first | ((first | refine LoopX.run hT (C := []) 4 rfl [0, 5, 6] [] (fun _ _ h => h) (fun _ h => h) ?_ | (refine br_intro ?_ ?_ <;> intro hb <;> try simp only [brs] at hb) | omega | refine sAx ?_ | decide | assumption) <;> conv => whnf))
 refine .ret _ ?_; conv => whnf
 refine ⟨[], ⟨?_, rfl⟩, trivial⟩; conv => lhs; whnf
set_option maxHeartbeats 4000000 in
theorem sDChk1 : FSpec Tryz.prog 40 [.d (ents [e1])] [] (fun x r => x = .d (.int .i64 0) ∧ r = []) := by
 have h108 := s108 [100] (by simp); rw [show isKeyB [100] = true from by decide] at h108; refine spec_of hT (C := []) Tryz.func40 rfl Tryz.call40 rfl rfl rfl ?_; conv => whnf
 repeat' (first | (refine LoopX.run hT (C := []) 10 rfl [0, 3, 11, 12, 13] [] (fun _ _ h => h) (fun _ h => h) ?_; conv => whnf) | (refine CallX.exact (s154 1) rfl rfl ?_; rotate_right; conv => whnf) | (refine CallX.exact (h108) rfl rfl ?_; rotate_right; conv => whnf) | (refine CallX.exact (s119 1 1 1000000) rfl rfl ?_; rotate_right; conv => whnf) | (refine CallX.exact (sPrinted1) rfl rfl ?_; rotate_right; conv => whnf) | ((first | (refine br_intro ?_ ?_ <;> intro hb <;> try simp only [brs] at hb) | refine rAx hT 16 oQDRdB40_16 ?_ | omega | refine sAx ?_ | decide | assumption) <;> conv => whnf))
 refine .ret _ ?_; conv => whnf
 refine ⟨[], ⟨?_, rfl⟩, trivial⟩; conv => lhs; whnf
theorem sDChk0 : FSpec Tryz.prog 40 [.d (ents [])] [] (fun x r => x = .d (.int .i64 0) ∧ r = []) := by
 refine spec_of hT (C := []) Tryz.func40 rfl Tryz.call40 rfl rfl rfl ?_; conv => whnf
 repeat' (first | ((first | refine LoopX.run hT (C := []) 10 rfl [0, 3, 11, 12, 13] [] (fun _ _ h => h) (fun _ h => h) ?_ | (refine br_intro ?_ ?_ <;> intro hb <;> try simp only [brs] at hb) | refine rAx hT 16 oQDRdB40_16 ?_ | omega | refine sAx ?_ | decide | assumption) <;> conv => whnf))
 refine .ret _ ?_; conv => whnf
 refine ⟨[], ⟨?_, rfl⟩, trivial⟩; conv => lhs; whnf
abbrev enB (l : List Ent) : Res := seqB 52 4 enF en0 l
theorem sIns1 : FSpec Tryz.prog 126 [.buf 1000001, .d (.int .i64 0), .d (.int .i64 1), .fn 43 []] [(1000001, enB [e1])] (fun y r => y = .tup [] ∧ r = [(1000001, enB [e1])]) := by
 refine spec_of hT (C := []) Tryz.func126 rfl Tryz.call126 rfl rfl rfl ?_; conv => whnf
 repeat' (first | ((first | refine LoopX.run hT (C := []) 2 rfl [0, 1, 2, 3, 8] [1000001] (fun _ _ h => h) (fun _ h => h) ?_ | refine LoopX.run hT (C := []) 8 rfl [0, 1, 2, 3, 8, 9] [1000001] (fun _ _ h => h) (fun _ h => h) ?_ | (refine br_intro ?_ ?_ <;> intro hb <;> try simp only [brs] at hb) | refine rAx hT 4 oQDRdB126_4 ?_ | refine rAx hT 6 oQDRdB126_6 ?_ | omega | refine sAx ?_ | decide | assumption) <;> conv => whnf))
 refine .ret _ ?_; conv => whnf
 exact ⟨_, ⟨rfl, rfl⟩, rr, trivial⟩
theorem sStb1 : FSpec Tryz.prog 84 [.buf 1000001, .d (.int .i64 1), .fn 43 []] [(1000001, enB [e1])] (fun y r => y = .tup [] ∧ r = [(1000001, enB [e1])]) := by
 refine spec_of hT (C := []) Tryz.func84 rfl Tryz.call84 rfl rfl rfl ?_; conv => whnf
 repeat' (first | ((first | refine LoopX.run hT (C := []) 4 rfl [0, 1, 2, 6, 7, 8] [1000001] (fun _ _ h => h) (fun _ h => h) ?_ | refine LoopX.run hT (C := []) 14 rfl [0, 1, 2, 6] [1000001] (fun _ _ h => h) (fun _ h => h) ?_ | refine LoopX.run hT (C := []) 18 rfl [0, 1, 2, 6, 7, 8] [1000001] (fun _ _ h => h) (fun _ h => h) ?_ | (refine oAx sIns1 [(1000001, 1000001)] ?_; rintro x rout ⟨rfl, rfl⟩; refine ⟨rfl, ?_⟩) | (refine br_intro ?_ ?_ <;> intro hb <;> try simp only [brs] at hb) | omega | refine sAx ?_ | decide | assumption) <;> conv => whnf))
 refine .ret _ ?_; conv => whnf
 exact ⟨_, ⟨rfl, rfl⟩, rr, trivial⟩
theorem sSrt1 : FSpec Tryz.prog 42 [.buf 1000001, .fn 43 []] [(1000001, enB [e1])] (fun y r => y = .tup [] ∧ r = [(1000001, enB [e1])]) := by
 refine spec_of hT (C := []) Tryz.func42 rfl Tryz.call42 rfl rfl rfl ?_; conv => whnf
 repeat' (first | ((first | (refine oAx sStb1 [(1000001, 1000001)] ?_; rintro x rout ⟨rfl, rfl⟩; refine ⟨rfl, ?_⟩) | (refine br_intro ?_ ?_ <;> intro hb <;> try simp only [brs] at hb) | omega | refine sAx ?_ | decide | assumption) <;> conv => whnf))
 refine .ret _ ?_; conv => whnf
 exact ⟨_, ⟨rfl, rfl⟩, rr, trivial⟩
theorem sCmp1 : FSpec Tryz.prog 47 [.buf 1000001] [(1000001, enB [e1])] (fun y r => y = .buf 1000001 ∧ r = [(1000001, enB [e1])]) := by
 refine spec_of hT (C := []) Tryz.func47 rfl Tryz.call47 rfl rfl rfl ?_; conv => whnf
 repeat' (first | ((first | (refine br_intro ?_ ?_ <;> intro hb <;> try simp only [brs] at hb) | refine rAx hT 6 oQDRdB47_6 ?_ | refine rAx hT 11 oQDRdB47_11 ?_ | omega | refine sAx ?_ | decide | assumption) <;> conv => whnf))
 refine .ret _ ?_; conv => whnf
 exact ⟨_, ⟨rfl, rfl⟩, rr, trivial⟩
set_option maxHeartbeats 4000000 in
theorem sMerge1 : FSpec Tryz.prog 19 [.d (ents [e1]), .d (ents [])] [] (fun y r => y = .tup [.d (ents [e1]), .d (.int .i64 0)] ∧ r = []) := by
 have h105 := s105 [0, 0] (by simp); have hc := sConcatE [[e1], []] (by simp) (by decide); refine spec_of hT (C := []) Tryz.func19 rfl Tryz.call19 rfl rfl rfl ?_; conv => whnf
 repeat' (first | (refine CallX.exact (sDChk1) rfl rfl ?_; rotate_right; conv => whnf) | (refine CallX.exact (sDChk0) rfl rfl ?_; rotate_right; conv => whnf) | ((first | refine CallX.pure h105 ⟨SV.le_lit (by rfl) (by rfl), trivial⟩ rfl ?_ | (refine br_intro ?_ ?_ <;> intro hb <;> try simp only [brs] at hb) | omega | refine sAx ?_ | decide | assumption) <;> conv => whnf))
 refine CallX.of hc [(6, 24)] rfl ⟨SV.le_lit (by rfl) (by rfl), trivial⟩ trivial rfl rfl ?_; rintro x rout ⟨rfl, rfl⟩; refine ⟨rfl, ?_⟩; conv => whnf
 repeat' (first | ((first | (refine oAx sSrt1 [(1000001, 24)] ?_; rintro x rout ⟨rfl, rfl⟩; refine ⟨rfl, ?_⟩) | (refine oAx sCmp1 [(1000001, 24)] ?_; rintro x rout ⟨rfl, rfl⟩; refine ⟨rfl, ?_⟩) | refine LoopX.run hT (C := []) 18 rfl [7, 8, 30, 31, 32] [24] (fun _ _ h => h) (fun _ h => h) ?_ | (refine br_intro ?_ ?_ <;> intro hb <;> try simp only [brs] at hb) | omega | refine sAx ?_ | decide | assumption) <;> conv => whnf))
 refine .freeze _ 24 52 4 _ _ rfl (.weak _ ?_); conv => whnf
 exact ⟨.tup [.d (ents [e1]), .d (.int .i64 0)], _, SV.le_tup ⟨lr, lr, trivial⟩, ⟨rfl, rfl⟩, trivial⟩
theorem dueE_1 : dueE ⟨0, 0, 1, 0⟩ ⟨[110], [65, 65], 0, 0, 7⟩ 0 = 0 := by decide +kernel
theorem dueV_1 : dueV ⟨0, 0, 1, 0⟩ ⟨[110], [65, 65], 0, 0, 7⟩ 0 = 7 := by decide +kernel
theorem dueW_1 : dueW ⟨0, 0, 1, 0⟩ ⟨[110], [65, 65], 0, 0, 7⟩ 0 = .tup [.d (.int .i64 7), .d (.int .i64 0)] := by unfold dueW; rw [if_pos dueE_1, dueV_1]
set_option maxHeartbeats 4000000 in
theorem sReady : FSpec Tryz.prog 15 [] [] (fun x r => x = .d (.bool true) ∧ r = []) := by
 have h35 := s35 3 [1, 1] (by simp); rw [splitF_31, if_pos rfl, splitG_31] at h35; have hd := sDue ⟨0, 0, 1, 0⟩ ⟨[110], [65, 65], 0, 0, 7⟩ 0 ⟨by simp, by simp⟩; rw [dueW_1] at hd; refine spec_of hT (C := []) Tryz.func15 rfl Tryz.call15 rfl rfl rfl ?_; conv => whnf
 repeat' (first | (refine CallX.pure h35 ⟨lr, SV.le_lit (by rfl) (by rfl), trivial⟩ rfl ?_; conv => whnf) | (refine CallX.exact (hd) rfl rfl ?_; rotate_right; conv => whnf) | ((first | refine CallX.pure s27t ⟨SV.le_lit rfl rfl, SV.le_lit rfl rfl, trivial⟩ rfl ?_ | refine CallX.pure sMerge1 ⟨SV.le_lit rfl rfl, SV.le_nilS, trivial⟩ rfl ?_ | (refine br_intro ?_ ?_ <;> intro hb <;> try simp only [brs] at hb) | omega | refine sAx ?_ | decide | assumption) <;> conv => whnf))
 all_goals first
  | (exfalso; omega)
  | (refine .ret _ ?_
     conv => whnf
     refine ⟨[], ⟨?_, rfl⟩, trivial⟩; conv => lhs; whnf
     all_goals rfl)
def MovedK (n : Nat) (L : Nat → Int) (a : Int) (c : Int) (r : List (Nat × Res)) : Prop := ∃ b, a ≤ b ∧ b ≤ a + c ∧ r = [(1000000, strm n L b), (1000009, KX)]
end Go.Proofs.YtophabkpfpbadaaGreatDoor
namespace Go.Proofs
open Go.Shelf
def Tryz.lays106_ren : Go.Shelf.Ren := ⟨fun | 106 => 105 | 213 => 141 | 265 => 183 | n => n, fun | 9 => 9 | 3 => 3 | n => n, fun | n => n⟩
theorem Tryz.lays106 : Go.Proofs.Lays.n106 Tryz.prog Tryz.lays106_ren := {
 mixed := by kernel_rfl
 f106 := Tryz.func105.trans (congrArg some (by kernel_rfl))
 f213 := Tryz.func141.trans (congrArg some (by kernel_rfl))
 f265 := Tryz.func183.trans (congrArg some (by kernel_rfl))
 t3 := Tryz.underlying3
 a3 := Tryz.isAgg3
 z3 := Tryz.sizeOf3
 v3 := Tryz.zeroValue3
 t9 := Tryz.underlying9
 a9 := Tryz.isAgg9
 z9 := Tryz.sizeOf9
 v9 := Tryz.zeroValue9 }
end Go.Proofs
set_option maxRecDepth 20000
namespace Go.Proofs.YtophabkpfpbadaaGreatDoor
open Go Go.Eng Go.RowKit
theorem cmpB_S : ∀ (a b : List UInt8), Lib.compareBytes a b = cmpS a b := by
 intro a
 induction a with
 | nil => intro b; cases b <;> simp [Lib.compareBytes, cmpS, Op.bytesLess]
 | cons x a ih =>
   intro b
   cases b with
   | nil => simp [Lib.compareBytes, cmpS, Op.bytesLess]
   | cons y b =>
     have := ih b; unfold cmpS at this ⊢; simp only [Lib.compareBytes, Op.bytesLess]; grind
theorem s190 (a b : List UInt8) : FSpec Tryz.prog 105 [.d (.str a), .d (.str b)] [] (fun x r => x = .d (.int .i64 (cmpS a b)) ∧ r = []) := by
 refine FSpec.ofBelow Tryz.call105 (fun G β w vs _ hl hd => ?_)
 match vs, hl with
 | [u, v], _ =>
   have hu := hd 0 _ _ rfl rfl; have hv := hd 1 _ _ rfl rfl
   cases hu with | d _ _ hu => cases hu with | str _ =>
   cases hv with | d _ _ hv => cases hv with | str _ =>
   refine ⟨.int .i64 (Lib.compareBytes a b), fun G β => ?_, (Go.Proofs.Any.strings_Compare Go.Proofs.Tryz.lays106 ⟨a.toArray⟩ ⟨b.toArray⟩ w).mono ?_⟩
   · rw [← cmpB_S]; exact .d _ _ (.int _ _)
   · rintro e w' ⟨he, rfl⟩; exact ⟨he, Below.refl _ _⟩
end Go.Proofs.YtophabkpfpbadaaGreatDoor
namespace Go.Proofs
open Go.Shelf
end Go.Proofs
set_option maxRecDepth 20000
namespace Go.Proofs.YtophabkpfpbadaaGreatDoor
open Go Go.Eng Go.RowKit
end Go.Proofs.YtophabkpfpbadaaGreatDoor
set_option maxRecDepth 20000
namespace Go.Proofs.YtophabkpfpbadaaGreatDoor
open Go Go.Eng Go.RowKit
end Go.Proofs.YtophabkpfpbadaaGreatDoor
set_option maxRecDepth 20000
namespace Go.Proofs.YtophabkpfpbadaaGreatDoor
open Go Go.Eng Go.RowKit
def su (F : Nat → Int) : Nat → Int
 | 0 => 0
 | n + 1 => su F n + F n
theorem su_congr {F H : Nat → Int} : ∀ {n : Nat}, (∀ k, k < n → F k = H k) → su F n = su H n
 | 0, _ => rfl
 | n + 1, h => by rw [su, su, su_congr (fun k hk => h k (by omega)), h n (by omega)]
theorem su_le {F H : Nat → Int} : ∀ {n : Nat}, (∀ k, k < n → F k ≤ H k) → su F n ≤ su H n
 | 0, _ => Int.le_refl _
 | n + 1, h => by
   have h1 := su_le (n := n) (fun k hk => h k (by omega)); have h2 := h n (by omega); rw [su, su]; omega
theorem su_sub (F H : Nat → Int) : ∀ n, su (fun k => F k - H k) n = su F n - su H n
 | 0 => rfl
 | n + 1 => by rw [su, su, su, su_sub F H n]; omega
theorem su_zero {F : Nat → Int} {n : Nat} (h : ∀ k, k < n → F k = 0) : su F n = 0 := by
 have : ∀ m, su (fun _ => 0) m = 0 := fun m => by
  induction m with
  | zero => rfl
  | succ m ih => rw [su, ih]; rfl
 rw [su_congr (H := fun _ => 0) h, this]
theorem su_nn {F : Nat → Int} {n : Nat} (h : ∀ k, k < n → 0 ≤ F k) : 0 ≤ su F n := by
 have := su_le (F := fun _ => 0) (H := F) (n := n) h; rwa [su_zero (fun _ _ => rfl)] at this
theorem su_one {a n : Nat} {x : Int} (h : a < n) : su (fun v => if a = v then x else 0) n = x := by
 induction n with
 | zero => omega
 | succ n ih =>
   rw [su]
   by_cases q : a = n
   · subst q; rw [if_pos rfl, su_zero (fun k hk => if_neg (by omega))]; omega
   · rw [if_neg q, ih (by omega)]; omega
structure Nw where
 K : Nat
 N : Nat
 fr : Nat → Nat
 to : Nat → Nat
 c : Nat → Int
structure Nw.Ok (G : Nw) : Prop where
 fr : ∀ k, k < G.K → G.fr k < G.N
 to : ∀ k, k < G.K → G.to k < G.N
 c0 : ∀ k, k < G.K → 0 ≤ G.c k
def Nw.net (G : Nw) (f : Nat → Int) (v : Nat) : Int := su (fun k => (if G.fr k = v then f k else 0) - (if G.to k = v then f k else 0)) G.K
def Nw.cost (G : Nw) (f : Nat → Int) : Int := su (fun k => f k * G.c k) G.K
theorem Nw.net_sub (G : Nw) (f g : Nat → Int) (v : Nat) : G.net (fun k => g k - f k) v = G.net g v - G.net f v := by
 unfold Nw.net; rw [← su_sub]; refine su_congr fun k _ => ?_
 by_cases a : G.fr k = v <;> by_cases b : G.to k = v <;> simp [a, b] <;> omega
def Nw.Fills (G : Nw) (have_ want : Nat → Int) (g : Nat → Int) : Prop := (∀ k, k < G.K → 0 ≤ g k) ∧ ∀ v, v < G.N → - want v ≤ G.net g v ∧ G.net g v ≤ have_ v - want v
structure Nw.St (G : Nw) (have_ want f left lack : Nat → Int) : Prop where
 f0 : ∀ k, k < G.K → 0 ≤ f k
 left0 : ∀ v, v < G.N → 0 ≤ left v ∧ left v ≤ have_ v
 lack0 : ∀ v, v < G.N → 0 ≤ lack v ∧ lack v ≤ want v
 net : ∀ v, v < G.N → G.net f v = (have_ v - left v) - (want v - lack v)
structure Nw.Pot (G : Nw) (have_ f left p : Nat → Int) : Prop where
 p0 : ∀ v, v < G.N → 0 ≤ p v
 ar : ∀ k, k < G.K → p (G.to k) ≤ p (G.fr k) + G.c k
 tight : ∀ k, k < G.K → 0 < f k → p (G.fr k) + G.c k ≤ p (G.to k)
 left : ∀ v, v < G.N → 0 < left v → p v ≤ 0
theorem Nw.cost_sub (G : Nw) (f g : Nat → Int) : G.cost g - G.cost f = su (fun k => (g k - f k) * G.c k) G.K := by
 unfold Nw.cost; rw [← su_sub]; exact su_congr fun k _ => by rw [Int.sub_mul]
def farD : Int := 1125899906842624
def upd {α : Type} (f : Nat → α) (a : Nat) (x : α) : Nat → α := fun v => if v = a then x else f v
theorem upd_self {α : Type} {f : Nat → α} {a : Nat} {x : α} : upd f a x a = x := if_pos rfl
theorem upd_ne {α : Type} {f : Nat → α} {a v : Nat} {x : α} (h : v ≠ a) : upd f a x v = f v := if_neg h
def Nw.hd (G : Nw) (e : Nat × Bool) : Nat := if e.2 = true then G.fr e.1 else G.to e.1
def Nw.tl (G : Nw) (e : Nat × Bool) : Nat := if e.2 = true then G.to e.1 else G.fr e.1
def Nw.cc (G : Nw) (e : Nat × Bool) : Int := if e.2 = true then - G.c e.1 else G.c e.1
def Nw.Re (G : Nw) (f : Nat → Int) (e : Nat × Bool) : Prop := e.1 < G.K ∧ (e.2 = true → 0 < f e.1)
theorem Nw.hd_lt {G : Nw} (h : G.Ok) {e : Nat × Bool} (he : e.1 < G.K) : G.hd e < G.N ∧ G.tl e < G.N := by
 unfold Nw.hd Nw.tl; have := h.fr _ he; have := h.to _ he; cases e.2 <;> simp <;> omega
inductive Nw.Ch (G : Nw) (b : Nat → Option (Nat × Bool)) (Q : Nat × Bool → Prop) : Nat → Nat → Nat → Prop
 | root (v : Nat) (h : b v = none) : Nw.Ch G b Q v 0 v
 | step (v n r : Nat) (e : Nat × Bool) (h : b v = some e) (hq : Q e) (hc : Nw.Ch G b Q (G.tl e) n r) : Nw.Ch G b Q v (n + 1) r
theorem Nw.Ch.uniq {G : Nw} {b : Nat → Option (Nat × Bool)} {Q Q' : Nat × Bool → Prop} {v n r : Nat} (h : G.Ch b Q v n r) : ∀ {m s : Nat}, G.Ch b Q' v m s → n = m ∧ r = s := by
 induction h with
 | root v hv =>
   intro m s h2
   cases h2 with
   | root _ _ => exact ⟨rfl, rfl⟩
   | step _ _ _ e he _ _ => rw [hv] at he; cases he
 | step v n r e he _ _ ih =>
   intro m s h2
   cases h2 with
   | root _ hv => rw [hv] at he; cases he
   | step _ n' _ e' he' _ hc' =>
     rw [he] at he'; cases he'; obtain ⟨rfl, rfl⟩ := ih hc'; exact ⟨rfl, rfl⟩
structure Nw.Wy (G : Nw) (f left p dist : Nat → Int) (b : Nat → Option (Nat × Bool)) : Prop where
 d1 : ∀ v, v < G.N → dist v ≤ farD ∧ (dist v < farD → p v ≤ dist v)
 src : ∀ v, v < G.N → 0 < left v → dist v = 0 ∧ b v = none
 root : ∀ v, v < G.N → b v = none → dist v < farD → 0 < left v
 st : ∀ v e, v < G.N → b v = some e → G.Re f e ∧ G.hd e = v ∧ dist (G.tl e) < farD ∧ dist (G.tl e) + G.cc e ≤ dist v ∧ dist v < farD
 rt : ∀ v, v < G.N → dist v < farD → ∃ n r, G.Ch b (fun _ => True) v n r
def Nw.Fin (G : Nw) (f dist : Nat → Int) : Prop := ∀ e, G.Re f e → dist (G.tl e) < farD → dist (G.hd e) ≤ dist (G.tl e) + G.cc e
theorem Nw.Wy.tight {G : Nw} {f left p dist : Nat → Int} {b : Nat → Option (Nat × Bool)} (hw : G.Wy f left p dist b) (hf : G.Fin f dist) {v : Nat} {e : Nat × Bool} (hv : v < G.N) (he : b v = some e) : dist v = dist (G.tl e) + G.cc e := by
 obtain ⟨s1, s2, s3, s4, s5⟩ := hw.st v e hv he; have := hf e s1 s3; rw [s2] at this; omega
def Nw.cnt (G : Nw) (dist : Nat → Int) : Int := su (fun v => if dist v < farD then 1 else 0) G.N
theorem Nw.net_upd (G : Nw) (g : Nat → Int) {k : Nat} (hk : k < G.K) (x : Int) (v : Nat) : G.net (upd g k x) v = G.net g v + (if G.fr k = v then x - g k else 0) - (if G.to k = v then x - g k else 0) := by
 have h := G.net_sub g (upd g k x) v
 have e : G.net (fun i => upd g k x i - g i) v = (if G.fr k = v then x - g k else 0) - (if G.to k = v then x - g k else 0) := by
  unfold Nw.net; rw [su_congr (H := fun i => if k = i then ((if G.fr k = v then x - g k else 0) - (if G.to k = v then x - g k else 0)) else 0) (fun i _ => ?_), su_one hk]
  by_cases q : i = k
  · rw [if_pos q.symm, q]; simp only [upd_self]
  · rw [if_neg (show ¬ k = i from fun z => q z.symm)]; simp [upd_ne q]
 omega
theorem ite_sw {a v : Nat} {x y : Int} (h : x = y) : (if a = v then x else 0) = (if v = a then y else 0) := by
 subst h
 by_cases q : a = v
 · rw [if_pos q, if_pos q.symm]
 · rw [if_neg q, if_neg (fun z => q z.symm)]
theorem Nw.cost_upd (G : Nw) (g : Nat → Int) {k : Nat} (hk : k < G.K) (x : Int) : G.cost (upd g k x) = G.cost g + (x - g k) * G.c k := by
 have h := G.cost_sub g (upd g k x)
 have e : su (fun i => (upd g k x i - g i) * G.c i) G.K = (x - g k) * G.c k := by
  rw [su_congr (H := fun i => if k = i then (x - g k) * G.c k else 0) (fun i _ => ?_), su_one hk]
  by_cases q : i = k
  · rw [if_pos q.symm, q, upd_self]
  · rw [if_neg (show ¬ k = i from fun z => q z.symm), upd_ne q]; simp
 omega
structure Nw.Bot (G : Nw) (f dist : Nat → Int) (b : Nat → Option (Nat × Bool)) (t : Nat) (lk : Int) (a : Nat) (m : Int) : Prop where
 ch : ∀ m' n' r, m' ≤ m → G.Ch b (fun e => e.2 = true → m' ≤ f e.1) a n' r → ∃ n, G.Ch b (fun e => e.2 = true → m' ≤ f e.1) t n r
 aN : a < G.N
 dn : dist a < farD
 m1 : 1 ≤ m ∧ m ≤ lk
theorem Nw.Bot.step {G : Nw} (hG : G.Ok) {f left p dist : Nat → Int} {b : Nat → Option (Nat × Bool)} (hw : G.Wy f left p dist b) {t a : Nat} {lk m : Int} (h : G.Bot f dist b t lk a m) {e : Nat × Bool} (he : b a = some e) :
 G.Bot f dist b t lk (G.tl e) (if e.2 = true then min m (f e.1) else m) := by
 obtain ⟨s1, s2, s3, s4, s5⟩ := hw.st a e h.aN he; have hm := h.m1; have hq := s1.2; refine ⟨fun m' n' r hm' hc => ?_, (Nw.hd_lt hG s1.1).2, s3, ?_⟩
 · refine h.ch m' (n' + 1) r ?_ (.step a n' r e he (fun w => ?_) hc)
   · split at hm' <;> omega
   · rw [if_pos w] at hm'; omega
 · cases w : e.2
   · simp; omega
   · have := hq w; simp; omega
theorem Nw.Bot.done {G : Nw} {f dist : Nat → Int} {b : Nat → Option (Nat × Bool)} {t a : Nat} {lk m : Int} (h : G.Bot f dist b t lk a m) (ha : b a = none) {m' : Int} (hm : m' ≤ m) : ∃ n, G.Ch b (fun e => e.2 = true → m' ≤ f e.1) t n a :=
 h.ch m' 0 a hm (.root a ha)
structure Nw.Aug (G : Nw) (f dist : Nat → Int) (b : Nat → Option (Nat × Bool)) (t : Nat) (m : Int) (g : Nat → Int) (a n r : Nat) : Prop where
 ch : G.Ch b (fun e => e.2 = true → m ≤ f e.1) a n r
 aN : a < G.N
 dn : dist a < farD
 fl : ∀ k, k < G.K → f k ≤ g k ∨ ∃ j s, G.Ch b (fun _ => True) (G.fr k) j s ∧ n < j ∧ f k ≤ g k + m ∧ m ≤ f k
 net : ∀ v, G.net g v = G.net f v - (if v = t then m else 0) + (if v = a then m else 0)
 cost : G.cost g = G.cost f + m * (dist t - dist a)
 pos : ∀ k, k < G.K → 0 < g k → 0 < f k ∨ (dist (G.fr k) < farD ∧ dist (G.to k) = dist (G.fr k) + G.c k)
theorem Nw.Ch.weak {G : Nw} {b : Nat → Option (Nat × Bool)} {Q : Nat × Bool → Prop} {v n r : Nat} (h : G.Ch b Q v n r) : G.Ch b (fun _ => True) v n r := by
 induction h with
 | root v hv => exact .root v hv
 | step v n r e he _ _ ih => exact .step v n r e he trivial ih
theorem Nw.Aug.step {G : Nw} (hG : G.Ok) {f left p dist : Nat → Int} {b : Nat → Option (Nat × Bool)} (hw : G.Wy f left p dist b) (hf : G.Fin f dist) {t a n r : Nat} {m : Int} (hm : 0 ≤ m) {g : Nat → Int} (h : G.Aug f dist b t m g a n r) {e : Nat × Bool} (he : b a = some e) :
 ∃ n', n = n' + 1 ∧ G.Aug f dist b t m (upd g e.1 (if e.2 = true then g e.1 - m else g e.1 + m)) (G.tl e) n' r := by
 have hch := h.ch
 cases hch with
 | root _ hv => rw [hv] at he; cases he
 | step _ n' _ e' he' hq hc =>
   rw [he] at he'; cases he'; obtain ⟨s1, s2, s3, s4, s5⟩ := hw.st a e h.aN he; have htg := hw.tight hf h.aN he; have hch := h.ch; refine ⟨n', rfl, hc, (Nw.hd_lt hG s1.1).2, s3, fun k hk => ?_, fun v => ?_, ?_, fun k hk hg => ?_⟩
   · rcases h.fl k hk with w | ⟨j, s, w1, w2, w3, w4⟩
     · by_cases q : k = e.1
       · rw [q, upd_self]; rw [q] at w; cases z : e.2
         · left; simp; omega
         · right; have hz : G.hd e = G.fr e.1 := by unfold Nw.hd; rw [z]; rfl
           rw [s2] at hz; refine ⟨n' + 1, r, ?_, by omega, by simp; omega, hq z⟩; rw [← hz]; exact hch.weak
       · rw [upd_ne q]; exact .inl w
     · right; refine ⟨j, s, w1, by omega, ?_, w4⟩
       by_cases q : k = e.1
       · rw [q, upd_self]; rw [q] at w1 w3; cases z : e.2
         · simp; omega
         · exfalso; have hz : G.hd e = G.fr e.1 := by unfold Nw.hd; rw [z]; rfl
           rw [s2] at hz; rw [← hz] at w1; have := hch.weak.uniq w1; omega
       · rw [upd_ne q]; exact w3
   · rw [G.net_upd g s1.1, h.net v]; have hhd : G.hd e = a := s2; unfold Nw.hd at hhd; unfold Nw.tl; cases z : e.2 <;> rw [z] at hhd <;> simp only [if_true, if_false, Bool.false_eq_true] at hhd ⊢
     · have c1 : (if G.to e.1 = v then g e.1 + m - g e.1 else 0) = (if v = a then m else 0) := by rw [hhd]; exact ite_sw (by omega)
       have c2 : (if G.fr e.1 = v then g e.1 + m - g e.1 else 0) = (if v = G.fr e.1 then m else 0) := ite_sw (by omega); rw [c1, c2]; omega
     · have c1 : (if G.fr e.1 = v then g e.1 - m - g e.1 else 0) = (if v = a then - m else 0) := by rw [hhd]; exact ite_sw (by omega)
       have c2 : (if G.to e.1 = v then g e.1 - m - g e.1 else 0) = (if v = G.to e.1 then - m else 0) := ite_sw (by omega); rw [c1, c2]
       by_cases q : v = a <;> by_cases w : v = G.to e.1 <;> simp only [q, w, if_true, if_false] <;> (try split) <;> omega
   · rw [G.cost_upd g s1.1, h.cost]; have e1 : (if e.2 = true then g e.1 - m else g e.1 + m) - g e.1 = if e.2 = true then - m else m := by split <;> omega
     rw [e1, htg]; unfold Nw.cc; cases z : e.2
     · simp only [if_false, Bool.false_eq_true]; rw [show dist t - dist (G.tl e) = (dist t - (dist (G.tl e) + G.c e.1)) + G.c e.1 by omega, Int.mul_add]; omega
     · simp only [if_true]; have e2 : m * (dist t - dist (G.tl e)) = m * (dist t - (dist (G.tl e) + - G.c e.1)) - m * G.c e.1 := by rw [← Int.mul_sub]; congr 1; omega
       rw [e2, Int.neg_mul]; omega
   · by_cases q : k = e.1
     · rw [q, upd_self] at hg; rw [q]; cases z : e.2
       · right; have hz : G.hd e = G.to e.1 := by unfold Nw.hd; rw [z]; rfl
         have ht : G.tl e = G.fr e.1 := by unfold Nw.tl; rw [z]; rfl
         have hcc : G.cc e = G.c e.1 := by unfold Nw.cc; rw [z]; rfl
         rw [← hz, ← ht, s2]; rw [hcc] at htg; exact ⟨s3, htg⟩
       · exact .inl (s1.2 z)
     · rw [upd_ne q] at hg; exact h.pos k hk hg
structure Nw.Op (G : Nw) (R : Nat × Bool → Prop) (p : Nat → Int) : Prop where
 lt : ∀ e, R e → e.1 < G.K
 le : ∀ e, R e → p (G.hd e) ≤ p (G.tl e) + G.cc e
structure Nw.Pw (G : Nw) (R : Nat × Bool → Prop) (p : Nat → Int) (P : Int) (dist : Nat → Int) (b : Nat → Option (Nat × Bool)) : Prop where
 low : ∀ v, v < G.N → p v - P ≤ dist v ∧ dist v ≤ 0
 root : ∀ v, v < G.N → b v = none → dist v = 0
 st : ∀ v e, v < G.N → b v = some e → R e ∧ G.hd e = v ∧ dist (G.tl e) + G.cc e ≤ dist v
 rt : ∀ v, v < G.N → ∃ n r, G.Ch b (fun _ => True) v n r
structure Nw.Prc (G : Nw) (have_ f gone y : Nat → Int) : Prop where
 ar : ∀ k, k < G.K → y (G.to k) ≤ y (G.fr k) + G.c k
 tight : ∀ k, k < G.K → 0 < f k → y (G.to k) = y (G.fr k) + G.c k
 lo : ∀ v, v < G.N → 0 < have_ v → gone v < have_ v → y v ≤ 0
 hi : ∀ v, v < G.N → 0 < have_ v → 0 < gone v → 0 ≤ y v
structure Nw.Bip (G : Nw) (B : Nat → Bool) : Prop where
 fr : ∀ k, k < G.K → G.fr k < G.N ∧ B (G.fr k) = true
 to : ∀ k, k < G.K → G.to k < G.N ∧ B (G.to k) = false
structure Nw.Fl (G : Nw) (B : Nat → Bool) (h w g : Nat → Int) : Prop where
 g0 : ∀ k, k < G.K → 0 ≤ g k
 src : ∀ v, v < G.N → B v = true → G.net g v ≤ h v
 dst : ∀ v, v < G.N → B v = false → G.net g v = - w v
theorem Nw.Bip.net_src {G : Nw} {B : Nat → Bool} (hb : G.Bip B) {g : Nat → Int} (h0 : ∀ k, k < G.K → 0 ≤ g k) {v : Nat} (hv : B v = true) : 0 ≤ G.net g v := by
 refine su_nn fun k hk => ?_
 have := (hb.to k hk).2; have h1 : ¬ G.to k = v := fun q => by rw [q, hv] at this; cases this
 have := h0 k hk; rw [if_neg h1]; split <;> omega
theorem Nw.Bip.net_dst {G : Nw} {B : Nat → Bool} (hb : G.Bip B) {g : Nat → Int} (h0 : ∀ k, k < G.K → 0 ≤ g k) {v : Nat} (hv : B v = false) : G.net g v ≤ 0 := by
 have h : G.net g v ≤ su (fun _ => 0) G.K := su_le fun k hk => by
  have := (hb.fr k hk).2; have h1 : ¬ G.fr k = v := fun q => by rw [q, hv] at this; cases this
  have := h0 k hk; simp only [if_neg h1]; split <;> omega
 rwa [su_zero (fun _ _ => rfl)] at h
theorem Nw.Bip.fl {G : Nw} {B : Nat → Bool} (hb : G.Bip B) {h w : Nat → Int} (hh : ∀ v, v < G.N → B v = false → h v = 0) (hw : ∀ v, v < G.N → B v = true → w v = 0) (g : Nat → Int) : G.Fills h w g ↔ G.Fl B h w g := by
 constructor
 · rintro ⟨h0, h1⟩; refine ⟨h0, fun v hv q => ?_, fun v hv q => ?_⟩
   · have := h1 v hv; have := hw v hv q; omega
   · have := h1 v hv; have := hh v hv q; omega
 · intro hg; refine ⟨hg.g0, fun v hv => ?_⟩; cases q : B v
   · have := hg.dst v hv q; have := hh v hv q; omega
   · have := hg.src v hv q; have := hw v hv q; have := hb.net_src hg.g0 q; omega
def Nw.sh (G : Nw) (a : Nat) : Nw := ⟨G.K - a, G.N, fun k => G.fr (a + k), fun k => G.to (a + k), fun k => G.c (a + k)⟩
theorem Nw.Bip.sh {G : Nw} {B : Nat → Bool} (h : G.Bip B) (a : Nat) : (G.sh a).Bip B :=
 ⟨fun k hk => h.fr (a + k) (by have hk : k < G.K - a := hk; omega), fun k hk => h.to (a + k) (by have hk : k < G.K - a := hk; omega)⟩
def vtl (x : Nat → Int) : Nat → Int := fun k => x (k + 1)
theorem su_cons (F : Nat → Int) : ∀ n, su F (n + 1) = F 0 + su (fun k => F (k + 1)) n
 | 0 => by simp [su]
 | n + 1 => by rw [su, su_cons F n, su]; omega
theorem Nw.net_cons {G : Nw} {a : Nat} (ha : a < G.K) (x : Nat → Int) (v : Nat) : (G.sh a).net x v = (if G.fr a = v then x 0 else 0) - (if G.to a = v then x 0 else 0) + (G.sh (a + 1)).net (vtl x) v := by
 unfold Nw.net; have e : (G.sh a).K = (G.sh (a + 1)).K + 1 := by show G.K - a = G.K - (a + 1) + 1; omega
 rw [e, su_cons]; congr 1
 refine su_congr fun k _ => ?_
 show (if G.fr (a + (k + 1)) = v then x (k + 1) else 0) - (if G.to (a + (k + 1)) = v then x (k + 1) else 0) = (if G.fr (a + 1 + k) = v then x (k + 1) else 0) - (if G.to (a + 1 + k) = v then x (k + 1) else 0); rw [show a + (k + 1) = a + 1 + k by omega]
def les (h : Nat → Int) (v : Nat) (u : Int) : Nat → Int := upd h v (h v - u)
theorem les_at (h : Nat → Int) (v i : Nat) (u : Int) : les h v u i = h i - (if v = i then u else 0) := by
 unfold les upd
 by_cases q : i = v
 · rw [if_pos q, if_pos q.symm, q]
 · rw [if_neg q, if_neg (fun z => q z.symm)]; omega
theorem Nw.fl_cons {G : Nw} {B : Nat → Bool} (hb : G.Bip B) {a : Nat} (ha : a < G.K) {h w x : Nat → Int} : (G.sh a).Fl B h w x ↔ 0 ≤ x 0 ∧ (G.sh (a + 1)).Fl B (les h (G.fr a) (x 0)) (les w (G.to a) (x 0)) (vtl x) := by
 have hf := hb.fr a ha; have ht := hb.to a ha; constructor
 · intro hx; refine ⟨hx.g0 0 (by show 0 < G.K - a; omega), fun k hk => hx.g0 (k + 1) (by have hk : k < G.K - (a + 1) := hk; show k + 1 < G.K - a; omega), fun v hv q => ?_, fun v hv q => ?_⟩
   · have h1 := hx.src v hv q; rw [Nw.net_cons ha] at h1; have : ¬ G.to a = v := fun z => by rw [z, q] at ht; cases ht.2
     rw [if_neg this] at h1; rw [les_at]; omega
   · have h1 := hx.dst v hv q; rw [Nw.net_cons ha] at h1; have : ¬ G.fr a = v := fun z => by rw [z, q] at hf; cases hf.2
     rw [if_neg this] at h1; rw [les_at]; omega
 · rintro ⟨h0, hx⟩; refine ⟨fun k hk => ?_, fun v hv q => ?_, fun v hv q => ?_⟩
   · cases k with
     | zero => exact h0
     | succ k => exact hx.g0 k (by have hk : k + 1 < G.K - a := hk; show k < G.K - (a + 1); omega)
   · have h1 := hx.src v hv q; rw [les_at] at h1; rw [Nw.net_cons ha]; have : ¬ G.to a = v := fun z => by rw [z, q] at ht; cases ht.2
     rw [if_neg this]; omega
   · have h1 := hx.dst v hv q; rw [les_at] at h1; rw [Nw.net_cons ha]; have : ¬ G.fr a = v := fun z => by rw [z, q] at hf; cases hf.2
     rw [if_neg this]; omega
theorem Nw.Fl.first {G : Nw} {B : Nat → Bool} (hb : G.Bip B) {a : Nat} (ha : a < G.K) {h w x : Nat → Int} (hx : (G.sh a).Fl B h w x) : 0 ≤ x 0 ∧ x 0 ≤ h (G.fr a) ∧ x 0 ≤ w (G.to a) := by
 obtain ⟨h0, hx2⟩ := (Nw.fl_cons hb ha).1 hx; have hf := hb.fr a ha; have ht := hb.to a ha; have h1 := hx2.src _ hf.1 hf.2; have h2 := hx2.dst _ ht.1 ht.2; have h3 := (hb.sh (a + 1)).net_src hx2.g0 hf.2; have h4 := (hb.sh (a + 1)).net_dst hx2.g0 ht.2; rw [les_at, if_pos rfl] at h1 h2; omega
def Bef (n : Nat) (x y : Nat → Int) : Prop := ∃ k, k < n ∧ (∀ j, j < k → x j = y j) ∧ 1 ≤ x k ∧ (y k = 0 ∨ x k < y k)
structure Nw.Best (G : Nw) (B : Nat → Bool) (h w : Nat → Int) (c : Int) (x : Nat → Int) : Prop where
 fl : G.Fl B h w x
 cost : G.cost x = c
 le : ∀ y, G.Fl B h w y → c ≤ G.cost y
 bef : ∀ y, G.Fl B h w y → G.cost y = c → (∀ k, k < G.K → y k = x k) ∨ Bef G.K x y
def cmpF {α : Type} (c : α → α → Int) : List α → List α → Int
 | [], [] => 0
 | [], _ :: _ => -1
 | _ :: _, [] => 1
 | a :: l, b :: m => if c a b = 0 then cmpF c l m else c a b
structure COrd {α : Type} (c : α → α → Int) : Prop where
 eq : ∀ a b, c a b = 0 ↔ a = b
 sw : ∀ a b, c a b < 0 ↔ 0 < c b a
 tr : ∀ a b d, c a b < 0 → c b d < 0 → c a d < 0
theorem COrd.refl {α : Type} {c : α → α → Int} (h : COrd c) (a : α) : c a a = 0 := (h.eq a a).2 rfl
theorem COrd.list {α : Type} {c : α → α → Int} (h : COrd c) : COrd (cmpF c) := by
 refine ⟨?_, ?_, ?_⟩
 · intro a
   induction a with
   | nil => intro b; cases b <;> simp [cmpF]
   | cons x a ih =>
     intro b
     cases b with
     | nil => simp [cmpF]
     | cons y b =>
       rw [cmpF]
       by_cases q : c x y = 0
       · rw [if_pos q, ih]; have := (h.eq x y).1 q; subst this; simp
       · rw [if_neg q]; have : ¬ x = y := fun z => q ((h.eq x y).2 z)
         simp [q, this]
 · intro a
   induction a with
   | nil => intro b; cases b <;> simp [cmpF]
   | cons x a ih =>
     intro b
     cases b with
     | nil => simp [cmpF]
     | cons y b =>
       rw [cmpF, cmpF]
       by_cases q : c x y = 0
       · have := (h.eq x y).1 q; subst this; rw [if_pos q, if_pos q]; exact ih b
       · have : ¬ c y x = 0 := fun z => q ((h.eq x y).2 ((h.eq y x).1 z).symm)
         rw [if_neg q, if_neg this]; exact h.sw x y
 · intro a
   induction a with
   | nil =>
     intro b d
     cases b with
     | nil => simp [cmpF]
     | cons y b => cases d <;> simp [cmpF]
   | cons x a ih =>
     intro b d
     cases b with
     | nil => simp [cmpF]
     | cons y b =>
       cases d with
       | nil =>
         intro _ h2
         simp [cmpF] at h2
       | cons z d =>
         rw [cmpF, cmpF, cmpF]
         by_cases q : c x y = 0
         · have := (h.eq x y).1 q; subst this; rw [if_pos q]
           by_cases w : c x z = 0
           · rw [if_pos w, if_pos w]; exact ih b d
           · rw [if_neg w, if_neg w]; exact fun _ h2 => h2
         · rw [if_neg q]
           by_cases w : c y z = 0
           · have := (h.eq y z).1 w; subst this; rw [if_pos w, if_neg q]; exact fun h1 _ => h1
           · rw [if_neg w]; intro h1 h2; have h3 := h.tr x y z h1 h2; rw [if_neg (by omega)]; exact h3
structure Pla (μ : Type) where
 l : List μ
 cost : Int
def lessP {μ : Type} (c : μ → μ → Int) (p q : Pla μ) : Bool := if p.cost ≠ q.cost then decide (p.cost < q.cost) else decide (cmpF c p.l q.l < 0)
abbrev PMap (μ : Type) := List UInt8 → Option (Pla μ)
def MinOf {μ : Type} (c : μ → μ → Int) (M : PMap μ) (S : List UInt8 → Pla μ → Prop) : Prop :=
 ∀ σ, match M σ with
  | none => ∀ p, ¬ S σ p
  | some q => S σ q ∧ ∀ p, S σ p → lessP c p q = false
theorem MinOf.congr {μ : Type} {c : μ → μ → Int} {M : PMap μ} {S S' : List UInt8 → Pla μ → Prop} (h : MinOf c M S) (hs : ∀ σ p, S σ p ↔ S' σ p) : MinOf c M S' := by
 intro σ; have := h σ
 cases q : M σ with
 | none => rw [q] at this; exact fun p hp => this p ((hs σ p).2 hp)
 | some r => rw [q] at this; exact ⟨(hs σ r).1 this.1, fun p hp => this.2 p ((hs σ p).2 hp)⟩
structure Stn (μ : Type) where
 way : Nat → Option Int
 mv : Nat → Int → μ
 many : Int
def stL (st : List UInt8) (k : Nat) (n : Int) : List UInt8 := st.set k (UInt8.ofNat ((st.getD k 0).toNat - n.toNat))
inductive Cd {μ : Type} (s : Stn μ) : Nat → Nat → List UInt8 → Int → List UInt8 → List μ → Int → Prop
 | fin (k : Nat) (st : List UInt8) (left : Int) : Cd s 0 k st left st [] 0
 | skip (d k : Nat) (st : List UInt8) (left : Int) (st' : List UInt8) (suf : List μ) (dc : Int) (h : Cd s d (k + 1) st left st' suf dc) : Cd s (d + 1) k st left st' suf dc
 | some (d k : Nat) (st : List UInt8) (left : Int) (st' : List UInt8) (suf : List μ) (dc n car : Int) (hw : s.way k = some car) (h1 : 1 ≤ n) (h2 : n ≤ left) (h3 : n ≤ (st.getD k 0).toNat) (h : Cd s d (k + 1) (stL st k n) (left - n) st' suf dc) : Cd s (d + 1) k st left st' (s.mv k n :: suf) (n * car + dc)
structure Lay {μ : Type} (G : Nw) (B : Nat → Bool) (S J : Nat) (ns nw : Nat → Nat) (stn : Nat → Stn μ) (m : Nat → Int → μ) (pos : Nat → Nat → Nat) : Prop where
 pend : pos S 0 = G.K
 pnext : ∀ i, i < S → pos (i + 1) 0 = pos i J
 pnone : ∀ i k, i < S → k < J → (stn i).way k = none → pos i (k + 1) = pos i k
 psome : ∀ i k car, i < S → k < J → (stn i).way k = some car → pos i (k + 1) = pos i k + 1 ∧ pos i k < G.K ∧ G.fr (pos i k) = ns i ∧ G.to (pos i k) = nw k ∧ G.c (pos i k) = car ∧ ∀ n, m (pos i k) n = (stn i).mv k n
 ns1 : ∀ i, i < S → ns i < G.N ∧ B (ns i) = true
 ns2 : ∀ i j, i < S → j < S → ns i = ns j → i = j
 nw1 : ∀ k, k < J → nw k < G.N ∧ B (nw k) = false
 nw2 : ∀ k j, k < J → j < J → nw k = nw j → k = j
 all : ∀ v, v < G.N → B v = false → ∃ k, k < J ∧ v = nw k
structure Rel {μ : Type} (G : Nw) (B : Nat → Bool) (S J : Nat) (ns nw : Nat → Nat) (stn : Nat → Stn μ) (i : Nat) (st : List UInt8) (left : Int) (h w : Nat → Int) : Prop where
 l0 : 0 ≤ left
 hi : i < S → h (ns i) = left
 later : ∀ j, i < j → j < S → h (ns j) = (stn j).many
 other : ∀ v, v < G.N → B v = true → (∀ j, i ≤ j → j < S → v ≠ ns j) → 0 ≤ h v
 want : ∀ k, k < J → w (nw k) = (st.getD k 0).toNat
theorem cmpS_sw (a b : List UInt8) : cmpS a b = - cmpS b a := by
 unfold cmpS
 by_cases e : a = b
 · subst e; simp [less_irr]
 · cases q : Op.bytesLess a b
   · have := less_tri _ _ q e; simp [this]
   · have : Op.bytesLess b a = false := by
      cases w : Op.bytesLess b a
      · rfl
      · have := less_trans q w; rw [less_irr] at this; cases this
     simp [this]
structure Ar3 where
 fr : Nat
 to : Nat
 car : Int
theorem cmpI_sw (a b : Int) : cmpI a b = - cmpI b a := by unfold cmpI; grind
theorem cmpS_lt {a b : List UInt8} : cmpS a b < 0 ↔ Op.bytesLess a b = true := by
 unfold cmpS; constructor
 · intro h; by_cases q : Op.bytesLess a b = true
   · exact q
   · rw [if_neg q] at h; split at h <;> omega
 · intro h; rw [if_pos h]; omega
theorem cmpS_zero {a b : List UInt8} : cmpS a b = 0 ↔ a = b := by
 constructor
 · intro h
   by_cases e : a = b
   · exact e
   · exfalso; cases q : Op.bytesLess a b
     · have h2 := less_tri _ _ q e; unfold cmpS at h; rw [q, h2] at h; simp at h
     · have := cmpS_lt.2 q; omega
 · rintro rfl; unfold cmpS; simp [less_irr]
theorem cmpS_trans {a b c : List UInt8} (h1 : cmpS a b < 0) (h2 : cmpS b c < 0) : cmpS a c < 0 := by
 rw [cmpS_lt] at *; exact less_trans h1 h2
theorem cmpI_lt {a b : Int} : cmpI a b < 0 ↔ a < b := by unfold cmpI; split <;> (try split) <;> omega
theorem cmpI_zero {a b : Int} : cmpI a b = 0 ↔ a = b := by unfold cmpI; split <;> (try split) <;> omega
def oQEnA45_1 : OL := [(0, []), (1, []), (2, [0, 1]), (3, [0, 1]), (5, rg 4), (6, rg 4), (7, [0, 1, 2, 3, 5, 6]), (8, [0, 1, 2, 3, 5, 6]), (10, [0, 1, 2, 3, 5, 6, 7, 8]), (11, [0, 1, 2, 3, 5, 6, 7, 8]), (12, [0, 1, 2, 3, 5, 6, 7, 8, 10, 11]), (13, [0, 1, 2, 3, 5, 6, 7, 8, 10, 11]), (4, [5, 6, 7, 8, 10, 11, 12, 13]), (9, [10, 11, 12, 13]), (14, []), (15, []), (16, []), (17, [])]
def prB (s : List UInt8) : Bool := s.all fun b => decide (32 ≤ b.toNat) && decide (b.toNat ≤ 126)
theorem prB_iff {s : List UInt8} : prB s = true ↔ ∀ j, j < s.length → 32 ≤ (s.getD j 0).toNat ∧ (s.getD j 0).toNat ≤ 126 := by
 unfold prB; rw [List.all_eq_true]; constructor
 · intro h j hj; have := h _ (getD_mem (x := 0) hj); simpa using this
 · intro h x hx; obtain ⟨i, hi, rfl⟩ := mem_getD (d := 0) hx; simpa using h i hi
theorem prB_bad {s : List UInt8} {i : Nat} (hi : i < s.length) (h : ¬ (32 ≤ (s.getD i 0).toNat ∧ (s.getD i 0).toNat ≤ 126)) : prB s = false := by
 cases q : prB s with
 | false => rfl
 | true => exact absurd (prB_iff.1 q i hi) h
theorem lz149 (s : List UInt8) (hl : s.length ≤ 2^40) : FSpec Tryz.prog 82 [.d (.str s)] [] (fun x r => x = .d (.bool (prB s)) ∧ r = []) := by
 refine spec_of hT (C := []) Tryz.func82 rfl Tryz.call82 rfl rfl rfl ?_; conv => whnf
 refine LoopX.rule hT (C := []) (ι := Nat) (fun i => i ≤ s.length ∧ ∀ j, j < i → 32 ≤ (s.getD j 0).toNat ∧ (s.getD j 0).toNat ≤ 126) (fun i => mkSt [(0, .d (.str s)), (5, .d (.int .i64 s.length)), (6, .d (.int .i64 i))] []) (fun i => s.length - i) 0 ⟨by omega, by omega⟩ (by exact eAx []) ?_; rintro i ⟨p1, p2⟩; have e1 : (i : Int).toNat = i := Int.toNat_natCast i; conv => whnf
 repeat' (first | ((first | (refine br_intro ?_ ?_ <;> intro hb <;> try simp only [brs] at hb) | omega | refine sAx ?_ | decide | assumption) <;> conv => whnf))
 · refine .ret _ ?_; conv => whnf
   refine ⟨[], ⟨?_, rfl⟩, trivial⟩; conv => lhs; whnf
   rw [prB_bad (i := i) (by omega) (by omega)]
 · refine .ret _ ?_; conv => whnf
   refine ⟨[], ⟨?_, rfl⟩, trivial⟩; conv => lhs; whnf
   rw [prB_bad (i := i) (by omega) (by omega)]
 · exact ⟨i + 1, ⟨by omega, all_step p2 (by omega)⟩, by omega, (by exact eAx [])⟩
 · refine .ret _ ?_; conv => whnf
   refine ⟨[], ⟨?_, rfl⟩, trivial⟩; conv => lhs; whnf
   have : i = s.length := by omega
   subst this; rw [prB_iff.2 p2]
def entCmp (a b : Ent) : Int := firstE [cmpI a.tm b.tm, cmpS a.desk b.desk, cmpI a.no b.no]
theorem lz150 (a b : Ent) : FSpec Tryz.prog 45 [.agg ((enF a).map .d), .agg ((enF b).map .d)] [] (fun x r => x = .d (.int .i64 (entCmp a b)) ∧ r = []) := by
 refine spec_of hT (C := []) Tryz.func45 rfl Tryz.call45 rfl rfl rfl ?_; conv => whnf
 repeat' (first | (refine CallX.exact (s184 _ _) rfl rfl ?_; rotate_right; conv => whnf) | (refine CallX.exact (s183 _ _) rfl rfl ?_; rotate_right; conv => whnf) | ((first | refine CallX.pure (s182 [_, _, _] (by simp)) ⟨SV.le_lit (by rfl) (by rfl), trivial⟩ rfl ?_ | (refine br_intro ?_ ?_ <;> intro hb <;> try simp only [brs] at hb) | refine rAx hT 1 oQEnA45_1 ?_ | omega | refine sAx ?_ | decide | assumption) <;> conv => whnf))
 refine .ret _ ?_; conv => whnf
 refine ⟨[], ⟨?_, rfl⟩, trivial⟩; conv => lhs; whnf
 rfl
theorem lz147 (n : Int) : FSpec Tryz.prog 104 [.d (.int .i64 n)] [] (fun x r => x = .d (.int .i64 (cmpI n 0)) ∧ r = []) := by
 refine spec_of hT (C := []) Tryz.func104 rfl Tryz.call104 rfl rfl rfl ?_; conv => whnf
 repeat' (first | ((first | (refine br_intro ?_ ?_ <;> intro hb <;> try simp only [brs] at hb) | omega | refine sAx ?_ | decide | assumption) <;> conv => whnf))
 all_goals
  refine .ret _ ?_; conv => whnf
  refine ⟨[], ⟨?_, rfl⟩, trivial⟩; conv => lhs; whnf
  congr 2
  unfold cmpI; grind
def entR (a : Ent) : Prop := (-2^40 ≤ a.tm ∧ a.tm ≤ 2^40) ∧ (-2^40 ≤ a.no ∧ a.no ≤ 2^40)
theorem cmpI_sub (a b : Int) : cmpI (a - b) 0 = cmpI a b := by unfold cmpI; grind
theorem lz63 (a b : Ent) (ha : entR a) (hb0 : entR b) : FSpec Tryz.prog 62 [.agg ((enF a).map .d), .agg ((enF b).map .d)] [] (fun x r => x = .d (.int .i64 (entCmp a b)) ∧ r = []) := by
 obtain ⟨⟨a1, a2⟩, a3, a4⟩ := ha; obtain ⟨⟨b1, b2⟩, b3, b4⟩ := hb0; refine spec_of hT (C := []) Tryz.func62 rfl Tryz.call62 rfl rfl rfl ?_; conv => whnf
 repeat' (first | (refine CallX.exact (lz147 _) rfl rfl ?_; rotate_right; conv => whnf) | (refine CallX.exact (s190 _ _) rfl rfl ?_; rotate_right; conv => whnf) | ((first | (refine br_intro ?_ ?_ <;> intro hb <;> try simp only [brs] at hb) | omega | refine sAx ?_ | decide | assumption) <;> conv => whnf))
 · refine .ret _ ?_; conv => whnf
   refine ⟨[], ⟨?_, rfl⟩, trivial⟩; conv => lhs; whnf
   congr 2
   have h0 : ¬ cmpI a.tm b.tm = 0 := fun q => hb (cmpI_zero.1 q)
   rw [cmpI_sub]; unfold entCmp; simp only [firstE]; rw [if_neg h0]
 · rename_i hb1; refine .ret _ ?_; conv => whnf
   refine ⟨[], ⟨?_, rfl⟩, trivial⟩; conv => lhs; whnf
   congr 2
   have h0 : cmpI a.tm b.tm = 0 := cmpI_zero.2 (by omega); have h1 : ¬ cmpS a.desk b.desk = 0 := fun q => hb (cmpS_zero.1 q)
   unfold entCmp; simp only [firstE]; rw [if_pos h0, if_neg h1]
 · rename_i hb1; refine .ret _ ?_; conv => whnf
   refine ⟨[], ⟨?_, rfl⟩, trivial⟩; conv => lhs; whnf
   congr 2
   have h0 : cmpI a.tm b.tm = 0 := cmpI_zero.2 (by omega); have h1 : cmpS a.desk b.desk = 0 := cmpS_zero.2 (by simpa using hb); rw [cmpI_sub]; unfold entCmp; simp only [firstE]; rw [if_pos h0, if_pos h1]; split <;> simp_all
def oQEnB126_4 : OL := [(0, []), (1, [0]), (2, []), (3, []), (4, []), (5, [4]), (6, [4, 5]), (7, [4]), (8, [4]), (9, [4, 5, 6, 7, 8]), (10, [4, 5, 6, 7, 8, 9]), (11, [4, 5, 6, 7, 8, 9]), (12, [4, 5, 6, 7, 8]), (13, [4, 5, 6, 7, 8]), (14, []), (15, []), (16, [])]
def oQEnB126_6 : OL := [(0, []), (1, [0]), (2, [0, 1]), (3, [0, 1, 2]), (4, [0, 1, 2]), (5, rg 5), (6, rg 6), (7, rg 6), (8, rg 5), (9, rg 5), (10, rg 10), (11, rg 11), (12, rg 10), (13, rg 10), (14, [2, 3, 4]), (15, [2, 3, 4]), (16, []), (17, [])]
def sameE (l c : List Ent) : Prop := c.length = l.length ∧ ∀ x ∈ c, x ∈ l
theorem sameE_set {l c : List Ent} {j : Nat} {x : Ent} (h : sameE l c) (hx : x ∈ l) : sameE l (c.set j x) :=
 ⟨by rw [List.length_set]; exact h.1, fun y hy => by rcases List.mem_or_eq_of_mem_set hy with q | q; exact h.2 y q; subst q; exact hx⟩
theorem en208 (g : FuncId) (cmp : Ent → Ent → Int) (l : List Ent) (hl : l.length ≤ 2^40)
 (hcmp : ∀ p q, p ∈ l → q ∈ l → FSpec Tryz.prog g [.agg ((enF p).map .d), .agg ((enF q).map .d)] [] (fun y r => y = .d (.int .i64 (cmp p q)) ∧ r = [])) :
 FSpec Tryz.prog 126 [.buf 1000001, .d (.int .i64 0), .d (.int .i64 l.length), .fn g []] [(1000001, seqB 52 4 enF en0 l)]
  (fun y r => y = .tup [] ∧ ∃ c, sameE l c ∧ r = [(1000001, seqB 52 4 enF en0 c)]) := by
 refine spec_of hT (C := []) Tryz.func126 rfl Tryz.call126 rfl rfl rfl ?_; conv => whnf
 repeat' (first | ((first | (refine br_intro ?_ ?_ <;> intro hb <;> try simp only [brs] at hb) | refine rAx hT 4 oQEnB126_4 ?_ | refine rAx hT 6 oQEnB126_6 ?_ | omega | refine sAx ?_ | decide | assumption) <;> conv => whnf))
 refine LoopX.rule hT (C := []) (ι := Nat × List Ent) (fun (i, c) => 1 ≤ i ∧ (i ≤ l.length ∨ i = 1) ∧ sameE l c)
  (fun (i, c) => mkSt [(0, .buf 1000001), (1, .d (.int .i64 0)), (2, .d (.int .i64 l.length)), (3, .fn g []), (8, .d (.int .i64 i))] [(1000001, seqB 52 4 enF en0 c)])
  (fun (i, _) => l.length - i) (1, l) ⟨by simp, by simp, rfl, fun x h => h⟩ (by exact eAx [(1000001, 1000001)]) ?_
 rintro ⟨i, c⟩ ⟨p1, p2, p3⟩; have hc0 := p3.1; conv => whnf
 repeat' (first | ((first | (refine br_intro ?_ ?_ <;> intro hb <;> try simp only [brs] at hb) | refine rAx hT 4 oQEnB126_4 ?_ | refine rAx hT 6 oQEnB126_6 ?_ | omega | refine sAx ?_ | decide | assumption) <;> conv => whnf))
 · refine LoopX.rule hT (C := []) (ι := Nat × List Ent) (fun (j, c) => j ≤ i ∧ sameE l c)
    (fun (j, c) => mkSt [(0, .buf 1000001), (1, .d (.int .i64 0)), (2, .d (.int .i64 l.length)), (3, .fn g []), (8, .d (.int .i64 i)), (9, .d (.int .i64 j))] [(1000001, seqB 52 4 enF en0 c)])
    (fun (j, _) => j) (i, c) ⟨Nat.le_refl _, p3⟩ (by exact eAx [(1000001, 1000001)]) ?_
   rintro ⟨j, b⟩ ⟨q1, q3⟩; have hb0 := q3.1; conv => whnf
   repeat' (first | ((first | (refine br_intro ?_ ?_ <;> intro hb <;> try simp only [brs] at hb) | refine rAx hT 4 oQEnB126_4 ?_ | refine rAx hT 6 oQEnB126_6 ?_ | omega | refine sAx ?_ | decide | assumption) <;> conv => whnf))
   · refine CallX.of (hcmp (b.getD (j : Int).toNat en0) (b.getD ((j : Int) - 1).toNat en0) (q3.2 _ (getD_mem (by omega))) (q3.2 _ (getD_mem (by omega)))) [] rfl ⟨lr, lr, trivial⟩ trivial rfl rfl ?_; rintro x rout ⟨rfl, rfl⟩; refine ⟨rfl, ?_⟩; conv => whnf
     repeat' (first | ((first | (refine br_intro ?_ ?_ <;> intro hb <;> try simp only [brs] at hb) | refine rAx hT 4 oQEnB126_4 ?_ | refine rAx hT 6 oQEnB126_6 ?_ | omega | refine sAx ?_ | decide | assumption) <;> conv => whnf))
     · refine ⟨(j - 1, _), ⟨by omega, sameE_set (sameE_set q3 (q3.2 _ (getD_mem (i := ((j : Int) - 1).toNat) (x := en0) (by omega)))) (q3.2 _ (getD_mem (i := (j : Int).toNat) (x := en0) (by omega)))⟩, by show j - 1 < j; omega, Entails.mk' [(1000001, 1000001)] rfl rfl ⟨lr, lr, lr, lr, lr, SV.le_int (by omega), trivial⟩ ⟨Res.le_put2 (fun _ => rfl) (fun _ => rfl), trivial⟩⟩
     · exact ⟨(i + 1, b), ⟨by omega, by omega, q3⟩, by show l.length - (i + 1) < l.length - i; omega, (by exact eAx [(1000001, 1000001)])⟩
   · exact ⟨(i + 1, b), ⟨by omega, by omega, q3⟩, by show l.length - (i + 1) < l.length - i; omega, (by exact eAx [(1000001, 1000001)])⟩
 · refine .ret _ ?_; conv => whnf
   exact ⟨_, ⟨rfl, c, p3, rfl⟩, rr, trivial⟩
theorem en175 (g : FuncId) (cmp : Ent → Ent → Int) (l : List Ent) (hl : l.length < 20)
 (hcmp : ∀ p q, p ∈ l → q ∈ l → FSpec Tryz.prog g [.agg ((enF p).map .d), .agg ((enF q).map .d)] [] (fun y r => y = .d (.int .i64 (cmp p q)) ∧ r = [])) :
 FSpec Tryz.prog 84 [.buf 1000001, .d (.int .i64 l.length), .fn g []] [(1000001, seqB 52 4 enF en0 l)]
  (fun y r => y = .tup [] ∧ ∃ c, sameE l c ∧ r = [(1000001, seqB 52 4 enF en0 c)]) := by
 refine spec_of hT (C := []) Tryz.func84 rfl Tryz.call84 rfl rfl rfl ?_; conv => whnf
 refine LoopX.rule hT (C := []) (ι := Unit) (fun _ => True) (fun _ => mkSt [(0, .buf 1000001), (1, .d (.int .i64 l.length)), (2, .fn g []), (6, .d (.int .i64 20)), (7, .d (.int .i64 0)), (8, .d (.int .i64 20))] [(1000001, seqB 52 4 enF en0 l)]) (fun _ => 0) () trivial (by exact eAx [(1000001, 1000001)]) ?_; rintro ⟨⟩ -; conv => whnf
 repeat' (first | ((first | (refine br_intro ?_ ?_ <;> intro hb <;> try simp only [brs] at hb) | omega | refine sAx ?_ | decide | assumption) <;> conv => whnf))
 refine oAx (en208 g cmp l (by omega) hcmp) [(1000001, 1000001)] ?_; rintro x rout ⟨rfl, c, hc, rfl⟩; refine ⟨rfl, ?_⟩; conv => whnf
 refine LoopX.rule hT (C := []) (ι := Unit) (fun _ => True) (fun _ => mkSt [(0, .buf 1000001), (1, .d (.int .i64 l.length)), (2, .fn g []), (6, .d (.int .i64 20))] [(1000001, seqB 52 4 enF en0 c)]) (fun _ => 0) () trivial (by exact eAx [(1000001, 1000001)]) ?_; rintro ⟨⟩ -; conv => whnf
 repeat' (first | ((first | (refine br_intro ?_ ?_ <;> intro hb <;> try simp only [brs] at hb) | omega | refine sAx ?_ | decide | assumption) <;> conv => whnf))
 refine .ret _ ?_; conv => whnf
 exact ⟨_, ⟨rfl, c, hc, rfl⟩, rr, trivial⟩
theorem en126 (g : FuncId) (cmp : Ent → Ent → Int) (l : List Ent) (hl : l.length < 20)
 (hcmp : ∀ p q, p ∈ l → q ∈ l → FSpec Tryz.prog g [.agg ((enF p).map .d), .agg ((enF q).map .d)] [] (fun y r => y = .d (.int .i64 (cmp p q)) ∧ r = [])) :
 FSpec Tryz.prog 42 [.buf 1000001, .fn g []] [(1000001, seqB 52 4 enF en0 l)]
  (fun y r => y = .tup [] ∧ ∃ c, sameE l c ∧ r = [(1000001, seqB 52 4 enF en0 c)]) := by
 refine spec_of hT (C := []) Tryz.func42 rfl Tryz.call42 rfl rfl rfl ?_; conv => whnf
 repeat' (first | ((first | (refine br_intro ?_ ?_ <;> intro hb <;> try simp only [brs] at hb) | omega | refine sAx ?_ | decide | assumption) <;> conv => whnf))
 refine oAx (en175 g cmp l hl hcmp) [(1000001, 1000001)] ?_; rintro x rout ⟨rfl, c, hc, rfl⟩; refine ⟨rfl, ?_⟩; conv => whnf
 refine .ret _ ?_; conv => whnf
 exact ⟨_, ⟨rfl, c, hc, rfl⟩, rr, trivial⟩
def oQEnC31_9 : OL := [(0, []), (1, []), (2, []), (3, []), (4, [3]), (5, [3]), (6, []), (7, []), (8, [3, 4, 5, 6, 7]), (9, []), (10, []), (11, [])]
theorem lxF_posE {p : Nat → Bool} {n k : Nat} (hk : k < n) (h : p k = true) : 0 ≤ ixF p n := by
 have hb := ixF_bd (p := p) (n := n); rcases Int.lt_or_le (ixF p n) 0 with q | q
 · exfalso
   have hn : ∀ m, ixF p m < 0 → ∀ j, j < m → p j = false := by
    intro m
    induction m with
    | zero => intro _ j hj; omega
    | succ m ih =>
      intro hm j hj; rw [ixF] at hm; split at hm
      · rename_i hz
        by_cases hjm : j = m
        · subst hjm; split at hm
          · omega
          · rename_i hf; simpa using hf
        · exact ih (by omega) j (by omega)
      · rename_i hz; have := (ixF_bd (p := p) (n := m)).1; omega
   rw [hn n q k hk] at h; cases h
 · exact q
theorem ent_eq {a b : Ent} : a = b ↔ ((a.tm = b.tm ∧ a.desk = b.desk) ∧ a.no = b.no) ∧ a.words = b.words := by cases a; cases b; simp [and_assoc]
instance : DecidableEq Ent := fun _ _ => decidable_of_iff _ ent_eq.symm
def enHas (l : List Ent) : List DV → Bool
 | [.str a, .int .i64 b] => l.any fun y => y.desk == a && decide (y.no = b)
 | _ => false
def dupE (l : List Ent) (x : Ent) : Bool := enHas l [.str x.desk, .int .i64 x.no]
abbrev enR (l : List Ent) : Res := .map true false [.str, .int .i64] [.bool false] (enHas l) (fun k => [.bool (enHas l k)])
def eqE (y x : Ent) : Bool := y.desk == x.desk && decide (y.no = x.no)
def ecell (x : Ent) : Res := .cells 52 ((enF x).map .d)
theorem lz71 (y x : Ent) : FSpec Tryz.prog 65 [.agg ((enF y).map .d), .ptr 1000001 0] [(1000001, ecell x)] (fun v r => v = .d (.bool (eqE y x)) ∧ r = [(1000001, ecell x)]) := by
 refine spec_of hT (C := []) Tryz.func65 rfl Tryz.call65 rfl rfl rfl ?_; conv => whnf
 repeat' (first | ((first | (refine br_intro ?_ ?_ <;> intro hb <;> try simp only [brs] at hb) | omega | refine sAx ?_ | decide | assumption) <;> conv => whnf))
 all_goals
  refine .ret _ ?_; conv => whnf
  refine ⟨[(1000001, ecell x)], ⟨?_, rfl⟩, rr, trivial⟩; conv => lhs; whnf
  congr 2
  unfold eqE
  first
   | (rw [hb]; simp; done)
   | (have : (y.desk == x.desk) = false := by simpa using hb
      rw [this]; rfl)
   | simp_all
theorem lz152 (l : List Ent) (hl : l.length ≤ 2^40) (x : Ent) : FSpec Tryz.prog 109 [.d (ents l), .fn 65 [.ptr 1000001 0]] [(1000001, ecell x)] (fun v r => v = .d (.int .i64 (ixF (fun i => eqE (l.getD i en0) x) l.length)) ∧ r = [(1000001, ecell x)]) := by
 refine spec_of hT (C := []) Tryz.func109 rfl Tryz.call109 rfl rfl rfl ?_; conv => whnf
 refine LoopX.rule hT (C := []) (ι := Nat) (fun i => i ≤ l.length ∧ ∀ j, j < i → eqE (l.getD j en0) x = false) (fun i => mkSt [(0, .d (ents l)), (1, .fn 65 [.ptr 1000001 0]), (7, .d (.int .i64 l.length)), (8, .d (.int .i64 i))] [(1000001, ecell x)]) (fun i => l.length - i) 0 ⟨by omega, by omega⟩ (by exact eAx [(1000001, 1000001)]) ?_; rintro i ⟨p1, p2⟩; have e1 : (i : Int).toNat = i := Int.toNat_natCast i; conv => whnf
 repeat' (first | ((first | (refine oAx (lz71 (l.getD (i : Int).toNat en0) x) [(1000001, 1000001)] ?_; rintro v rout ⟨rfl, rfl⟩; refine ⟨rfl, ?_⟩) | (refine br_intro ?_ ?_ <;> intro hb <;> try simp only [brs] at hb) | omega | refine sAx ?_ | decide | assumption) <;> conv => whnf))
 · refine .ret _ ?_; conv => whnf
   refine ⟨[(1000001, ecell x)], ⟨?_, rfl⟩, rr, trivial⟩; conv => lhs; whnf
   congr 2
   exact (ixF_hit (by omega) p2 (by simpa using hb)).symm
 · exact ⟨i + 1, ⟨by omega, all_step p2 (by simpa using hb)⟩, by omega, (by exact eAx [(1000001, 1000001)])⟩
 · refine .ret _ ?_; conv => whnf
   refine ⟨[(1000001, ecell x)], ⟨?_, rfl⟩, rr, trivial⟩; conv => lhs; whnf
   congr 2
   have : i = l.length := by omega
   subst this; exact (ixF_none p2).symm
theorem dup_ix (l : List Ent) (x : Ent) : decide (0 ≤ ixF (fun i => eqE (l.getD i en0) x) l.length) = dupE l x := by
 rw [Bool.eq_iff_iff, decide_eq_true_eq]; show _ ↔ (l.any fun y => y.desk == x.desk && decide (y.no = x.no)) = true; rw [List.any_eq_true]; constructor
 · intro h; have := ixF_bd (p := fun i => eqE (l.getD i en0) x) (n := l.length); exact ⟨_, getD_mem (x := en0) (by omega), this.2.2 h⟩
 · rintro ⟨y, hy, he⟩; obtain ⟨j, hj, rfl⟩ := mem_getD (d := en0) hy; exact lxF_posE hj he
theorem lz70 (l : List Ent) (hl : l.length ≤ 2^40) (x : Ent) : FSpec Tryz.prog 64 [.d (ents l), .fn 65 [.ptr 1000001 0]] [(1000001, ecell x)] (fun v r => v = .d (.bool (dupE l x)) ∧ r = [(1000001, ecell x)]) := by
 refine spec_of hT (C := []) Tryz.func64 rfl Tryz.call64 rfl rfl rfl ?_; conv => whnf
 repeat' (first | ((first | (refine oAx (lz152 l hl x) [(1000001, 1000001)] ?_; rintro v rout ⟨rfl, rfl⟩; refine ⟨rfl, ?_⟩) | (refine br_intro ?_ ?_ <;> intro hb <;> try simp only [brs] at hb) | omega | refine sAx ?_ | decide | assumption) <;> conv => whnf))
 refine .ret _ ?_; conv => whnf
 refine ⟨[(1000001, ecell x)], ⟨?_, rfl⟩, rr, trivial⟩; conv => lhs; whnf
 rw [← dup_ix]
def frmE (x : Ent) : Int := if ¬ (0 ≤ x.tm ∧ x.tm ≤ 5761439) then 1 else if isKeyB x.desk = false then 5 else if ¬ (1 ≤ x.no ∧ x.no ≤ 1000000) then 1 else if ¬ (1 ≤ x.words.length ∧ x.words.length ≤ 200) then 3 else if prB x.words = false then 3 else 0
def entE (l : List Ent) (i : Nat) : Int := if frmE (l.getD i en0) ≠ 0 then frmE (l.getD i en0) else if 0 < i ∧ 0 ≤ entCmp (l.getD (i - 1) en0) (l.getD i en0) then 7 else if dupE (l.take i) (l.getD i en0) = true then 6 else 0
def entsE (l : List Ent) : Int := if 1000 < l.length then 2 else firstAt (entE l) l.length
def entK (x : Ent) : Prop := (x.desk.length ≤ 2^40 ∧ x.words.length ≤ 2^40) ∧ entR x
def entOk (l : List Ent) : Prop := l.length ≤ 2^40 ∧ ∀ x ∈ l, entK x
theorem lz69 (x : Ent) (hk : entK x) : FSpec Tryz.prog 63 [.agg ((enF x).map .d)] [] (fun v r => v = .d (.int .i64 (frmE x)) ∧ r = []) := by
 have hw := hk.1.2; refine spec_of hT (C := []) Tryz.func63 rfl Tryz.call63 rfl rfl rfl ?_; conv => whnf
 repeat' (first | (refine CallX.exact (s133 _) rfl rfl ?_; rotate_right; conv => whnf) | (refine CallX.exact (s21 _ hk.1.1) rfl rfl ?_; rotate_right; conv => whnf) | (refine CallX.exact (s109 _ _ _) rfl rfl ?_; rotate_right; conv => whnf) | ((first | (refine br_intro ?_ ?_ <;> intro hb <;> try simp only [brs] at hb) | omega | refine sAx ?_ | decide | assumption) <;> conv => whnf))
 iterate 4
  · refine .ret _ ?_; conv => whnf
    refine ⟨[], ⟨?_, rfl⟩, trivial⟩; conv => lhs; whnf
    congr 2
    unfold frmE; grind
 have hf : frmE x = if prB x.words = false then 3 else 0 := by unfold frmE; grind
 rw [hf]; refine LoopX.rule hT (C := []) (ι := Nat) (fun i => i ≤ x.words.length ∧ ∀ j, j < i → 32 ≤ (x.words.getD j 0).toNat ∧ (x.words.getD j 0).toNat ≤ 126) (fun i => mkSt [(1, .ptr 1 0), (27, .d (.int .i64 x.words.length)), (28, .d (.int .i64 i))] [(1, ecell x)]) (fun i => x.words.length - i) 0 ⟨by omega, by omega⟩ (by exact eAx [(1, 1)]) ?_; rintro i ⟨p1, p2⟩; have e1 : (i : Int).toNat = i := Int.toNat_natCast i; have hby : (x.words.getD (i : Int).toNat 0).toNat < 256 := UInt8.toNat_lt _; have hby2 : (x.words.getD i 0).toNat < 256 := UInt8.toNat_lt _; conv => whnf
 repeat' (first | (refine CallX.exact (s109 _ _ _) rfl rfl ?_; rotate_right; conv => whnf) | ((first | (refine br_intro ?_ ?_ <;> intro hb <;> try simp only [brs] at hb) | omega | refine sAx ?_ | decide | assumption) <;> conv => whnf))
 · refine .ret _ ?_; conv => whnf
   refine ⟨[], ⟨?_, rfl⟩, trivial⟩; conv => lhs; whnf
   congr 2
   rw [prB_bad (i := i) (by omega) (by omega)]; rfl
 · exact ⟨i + 1, ⟨by omega, all_step p2 (by omega)⟩, by omega, (by exact eAx [(1, 1)])⟩
 · refine .ret _ ?_; conv => whnf
   refine ⟨[], ⟨?_, rfl⟩, trivial⟩; conv => lhs; whnf
   congr 2
   have : i = x.words.length := by omega
   subst this; rw [prB_iff.2 p2]; rfl
theorem le_takeE {l : List Ent} {i : Nat} (h : i ≤ l.length) : SV.le (.d (.ro 4 i fun j => rowF enF en0 l (0 + j))) (.d (ents (l.take i))) :=
 SV.le_ro (by rw [List.length_take]; omega) (fun j hj => by
  simp only [Nat.zero_add, rowF]
  rw [List.getD_eq_getElem?_getD, List.getD_eq_getElem?_getD, List.getElem?_take_of_lt hj])
theorem entE_hit {l : List Ent} {i : Nat} {e : Int} (h0 : ¬ 1000 < l.length) (h : i < l.length) (p : ∀ j, j < i → entE l j = 0) (h1 : e ≠ 0) (h2 : entE l i = e) : entsE l = e := by
 unfold entsE; rw [if_neg h0]; exact firstAt_eq h p h1 h2
theorem lz12 (l : List Ent) (hk : entOk l) : FSpec Tryz.prog 31 [.d (ents l)] [] (fun x r => x = .d (.int .i64 (entsE l)) ∧ r = []) := by
 refine spec_of hT (C := []) Tryz.func31 rfl Tryz.call31 rfl rfl rfl ?_; conv => whnf
 refine br_intro (fun h0 => ?_) (fun h0 => ?_)
 · simp at h0; conv => whnf
   refine .ret _ ?_; conv => whnf
   refine ⟨[], ⟨?_, rfl⟩, trivial⟩; conv => lhs; whnf
   unfold entsE; rw [if_pos (by omega)]
 simp at h0; conv => whnf
 refine LoopX.rule hT (C := []) (ι := Nat) (fun i => i ≤ l.length ∧ ∀ j, j < i → entE l j = 0) (fun i => mkSt [(0, .d (ents l)), (9, .d (ents l)), (10, .d (.int .i64 l.length)), (11, .d (.int .i64 i))] []) (fun i => l.length - i) 0 ⟨by omega, by omega⟩ (by exact eAx []) ?_; rintro i ⟨p1, p2⟩; have e1 : (i : Int).toNat = i := Int.toNat_natCast i; have hx : ∀ i, i < l.length → entK (l.getD i en0) := fun i hi => hk.2 _ (getD_mem hi)
 have hK : entK (l.getD (i : Int).toNat en0) := by
  rw [e1]; rcases Nat.lt_or_ge i l.length with q | q
  · exact hx i q
  · rw [List.getD_eq_getElem?_getD, List.getElem?_eq_none q]; simp [entK, entR, en0]
 have hK2 : entK (l.getD ((i : Int) - 1).toNat en0) := by
  rcases Nat.lt_or_ge ((i : Int) - 1).toNat l.length with q | q
  · exact hx _ q
  · rw [List.getD_eq_getElem?_getD, List.getElem?_eq_none q]; simp [entK, entR, en0]
 have hD := lz70 (l.take (i : Int).toNat) (by rw [List.length_take]; have := hk.1; omega) (l.getD (i : Int).toNat en0); conv => whnf
 repeat' (first | (refine CallX.exact (lz69 _ hK) rfl rfl ?_; rotate_right; conv => whnf) | (refine CallX.exact (lz63 (l.getD ((i : Int) - 1).toNat en0) (l.getD (i : Int).toNat en0) hK2.2 hK.2) rfl rfl ?_; rotate_right; conv => whnf) | ((first | (refine CallX.of hD [(1000001, 4)] rfl ⟨le_takeE (by omega), lr, trivial⟩ ⟨rr, trivial⟩ rfl rfl ?_; rintro v rout ⟨rfl, rfl⟩; refine ⟨rfl, ?_⟩) | (refine br_intro ?_ ?_ <;> intro hb <;> try simp only [brs] at hb) | refine rAx hT 9 oQEnC31_9 ?_ | omega | refine sAx ?_ | decide | assumption) <;> conv => whnf))
 all_goals clear hD hK hK2 hx
 all_goals first
  | (refine ⟨i + 1, ⟨by omega, first_step p2 (by clear p2 hk; simp only [e1, toNat_pred] at *; unfold entE; grind)⟩, by omega, (by exact eAx [])⟩)
  | (refine .ret _ ?_
     conv => whnf
     refine ⟨[], ⟨?_, rfl⟩, trivial⟩; conv => lhs; whnf
     congr 2
     first
      | exact (entE_hit (by omega) (by omega) p2 hb (by clear p2 hk; simp only [e1, toNat_pred] at *; unfold entE; grind)).symm
      | exact (entE_hit (by omega) (by omega) p2 (by decide) (by clear p2 hk; simp only [e1, toNat_pred] at *; unfold entE; grind)).symm
      | (have : i = l.length := by omega
         subst this
         unfold entsE; rw [if_neg (by omega), firstAt_zero p2]))
def oQEnD40_16 : OL := [(0, []), (1, []), (2, []), (3, []), (4, [3]), (5, [3]), (6, []), (7, []), (8, [3, 4, 5, 6, 7]), (9, []), (10, []), (11, []), (12, [])]
theorem wk_si {key : List DV} (h : wk [.str, .int .i64] key = true) : ∃ a b, key = [.str a, .int .i64 b] := by
 match key, h with
 | [.str a, .int k d], h =>
   have : IntKind.i64 = k := kEq_eq (by simpa [wk, wk1] using h); subst this
   exact ⟨a, d, rfl⟩
 | .str _ :: .int _ _ :: _ :: _, h => simp [wk] at h
theorem enR_up {l : List Ent} {i : Nat} {x : Ent} (hi : i < l.length) (hx : x = l.getD i en0) :
 Res.le (.map true false [.str, .int .i64] [.bool false] (fun q => keyEq q [.str x.desk, .int .i64 x.no] || enHas (l.take i) q) (fun q => bif keyEq q [.str x.desk, .int .i64 x.no] then [.bool true] else [.bool (enHas (l.take i) q)])) (enR (l.take (i + 1))) := Res.le_map fun K hK => by
 obtain ⟨a, b, rfl⟩ := wk_si hK
 have e : l.take (i + 1) = l.take i ++ [x] := by
  rw [hx, List.take_add_one]; simp [List.getD_eq_getElem?_getD, hi]
 have h1 : enHas (l.take (i + 1)) [.str a, .int .i64 b] = (enHas (l.take i) [.str a, .int .i64 b] || (x.desk == a && decide (x.no = b))) := by
  show (l.take (i + 1)).any _ = _; rw [e, List.any_append]; simp [enHas]
 have h2 : keyEq [.str a, .int .i64 b] [.str x.desk, .int .i64 x.no] = (x.desk == a && decide (x.no = b)) := by
  rw [Bool.eq_iff_iff]; simp [keyEq, keyEq1]; grind
 rw [h1, h2]; cases hq : (x.desk == a && decide (x.no = b)) <;> simp
theorem lz64 (l : List Ent) (hk : entOk l) : FSpec Tryz.prog 40 [.d (ents l)] [] (fun x r => x = .d (.int .i64 (entsE l)) ∧ r = []) := by
 refine spec_of hT (C := []) Tryz.func40 rfl Tryz.call40 rfl rfl rfl ?_; conv => whnf
 refine br_intro (fun h0 => ?_) (fun h0 => ?_)
 · simp at h0; conv => whnf
   refine .ret _ ?_; conv => whnf
   refine ⟨[], ⟨?_, rfl⟩, trivial⟩; conv => lhs; whnf
   unfold entsE; rw [if_pos (by omega)]
 simp at h0; conv => whnf
 refine LoopX.rule hT (C := []) (ι := Nat) (fun i => i ≤ l.length ∧ ∀ j, j < i → entE l j = 0) (fun i => mkSt [(0, .d (ents l)), (3, .mp 3), (11, .d (ents l)), (12, .d (.int .i64 l.length)), (13, .d (.int .i64 i))] [(3, enR (l.take i))]) (fun i => l.length - i) 0 ⟨by omega, by omega⟩ ?_ ?_
 · refine Entails.mk' [(3, 10)] rfl rfl ⟨lr, lr, lr, lr, lr, trivial⟩ ⟨Res.le_map (fun key hk => ?_), trivial⟩; obtain ⟨a, b, rfl⟩ := wk_si hk; exact ⟨rfl, rfl⟩
 rintro i ⟨p1, p2⟩; have e1 : (i : Int).toNat = i := Int.toNat_natCast i; have hx : ∀ i, i < l.length → entK (l.getD i en0) := fun i hi => hk.2 _ (getD_mem hi)
 have hK : entK (l.getD (i : Int).toNat en0) := by
  rw [e1]; rcases Nat.lt_or_ge i l.length with q | q
  · exact hx i q
  · rw [List.getD_eq_getElem?_getD, List.getElem?_eq_none q]; simp [entK, entR, en0]
 conv => whnf
 repeat' (first | (refine CallX.exact (s154 _) rfl rfl ?_; rotate_right; conv => whnf) | (refine CallX.exact (s108 _ hK.1.1) rfl rfl ?_; rotate_right; conv => whnf) | (refine CallX.exact (s119 _ _ _) rfl rfl ?_; rotate_right; conv => whnf) | (refine CallX.exact (lz149 _ hK.1.2) rfl rfl ?_; rotate_right; conv => whnf) | (refine CallX.exact (lz150 (l.getD ((i : Int) - 1).toNat en0) (l.getD (i : Int).toNat en0)) rfl rfl ?_; rotate_right; conv => whnf) | (refine And.intro (rfl : zrow _ = some [DV.bool false]) ?_; conv => whnf) | (simp only [Nat.beq_refl, cond_true]; conv => whnf) | ((first | (refine br_intro ?_ ?_ <;> intro hb <;> try simp only [brs] at hb) | refine rAx hT 16 oQEnD40_16 ?_ | omega | refine sAx ?_ | decide | assumption) <;> conv => whnf))
 all_goals have hwl : (l.getD i en0).words = [] ↔ (l.getD i en0).words.length = 0 := List.length_eq_zero_iff.symm
 all_goals clear hK hx
 all_goals first
  | (refine ⟨i + 1, ⟨by omega, first_step p2 (by clear p2 hk; simp only [e1, toNat_pred] at *; unfold entE frmE dupE; grind)⟩, by omega, Entails.mk' [(3, 3)] rfl rfl ⟨lr, lr, lr, lr, lr, trivial⟩ ⟨enR_up (x := l.getD (i : Int).toNat en0) (by omega) (by rw [e1]), trivial⟩⟩)
  | (refine .ret _ ?_
     conv => whnf
     refine ⟨[], ⟨?_, rfl⟩, trivial⟩; conv => lhs; whnf
     congr 2
     first
      | exact (entE_hit (by omega) (by omega) p2 (by decide) (by clear p2 hk; simp only [e1, toNat_pred] at *; unfold entE frmE dupE; grind)).symm
      | (have : i = l.length := by omega
         subst this
         unfold entsE; rw [if_neg (by omega), firstAt_zero p2]))
theorem dec_len : ∀ (k u : Nat), u < 10 ^ (k + 1) → (Lib.decDigits u).length ≤ k + 1 := by
 intro k
 induction k with
 | zero =>
   intro u h
   rw [Lib.decDigits, dif_pos (by omega)]; simp
 | succ k ih =>
   intro u h; rw [Lib.decDigits]; split
   · simp
   · have := ih (u / 10) (by rw [Nat.pow_succ] at h; omega); simp; omega
theorem itoa_len {n : Int} (h0 : -2^60 ≤ n) (h1 : n ≤ 2^60) : (Lib.itoa n).length ≤ 20 := by
 have key : ∀ u : Nat, u ≤ 2^60 → (Lib.decDigits u).length ≤ 19 := fun u hu => dec_len 18 u (by omega)
 unfold Lib.itoa; split
 · have := key n.natAbs (by omega); simp; omega
 · have := key n.toNat (by omega); omega
set_option maxHeartbeats 4000000 in
theorem lz59 (n : Nat) (L : Nat → Int) (hL : Rok n L) (a : Int) (h0 : 0 ≤ a) (ha : a ≤ 2^37) (at' : Int) (hq1 : -2^40 ≤ at') (hq2 : at' ≤ 2^40) :
 FSpec Tryz.prog 60 [.ptr 1000000 0, .d (.int .i64 at')] [(1000000, strm n L a), (1000009, KX)] (fun y r => (∃ t : List UInt8, t.length ≤ 2^10 ∧ y = .d (.str t)) ∧ MovedK n L a 20 r) := by
 have hI : ∀ k : Int, -2^60 ≤ k → k ≤ 2^60 → (Lib.itoa k).length ≤ 20 := fun k h1 h2 => itoa_len h1 h2
 refine spec_of hT (C := []) Tryz.func60 rfl Tryz.call60 rfl rfl rfl ?_; conv => whnf
 repeat' (first | (refine CallX.of (s15 n L hL _ ?_ ?_ [[118, 49], [118, 49], [118, 50], [118, 51], [110, 111, 110, 101]] (by simp) (by simp)) [(1000000, 1000000)] rfl ⟨lr, SV.le_lit rfl rfl, trivial⟩ ⟨rr, trivial⟩ rfl rfl ?_; rotate_right; rintro x rout ⟨⟨u0, hu0, rfl⟩, ⟨c, c1, c2, rfl⟩⟩; have hw0 := mem_len hu0 rfl; refine ⟨rfl, ?_⟩; conv => whnf) | (refine CallX.of (s15 n L hL _ ?_ ?_ [[115, 49], [115, 49], [115, 49], [115, 50], [115, 57]] (by simp) (by simp)) [(1000000, 1000000)] rfl ⟨lr, SV.le_lit rfl rfl, trivial⟩ ⟨rr, trivial⟩ rfl rfl ?_; rotate_right; rintro x rout ⟨⟨u1, hu1, rfl⟩, ⟨c, c1, c2, rfl⟩⟩; have hw1 := mem_len hu1 rfl; refine ⟨rfl, ?_⟩; conv => whnf) | (refine CallX.of (s15 n L hL _ ?_ ?_ [[104, 49], [104, 49], [104, 50], [104, 51], [65]] (by simp) (by simp)) [(1000000, 1000000)] rfl ⟨lr, SV.le_lit rfl rfl, trivial⟩ ⟨rr, trivial⟩ rfl rfl ?_; rotate_right; rintro x rout ⟨⟨u2, hu2, rfl⟩, ⟨c, c1, c2, rfl⟩⟩; have hw2 := mem_len hu2 rfl; refine ⟨rfl, ?_⟩; conv => whnf) | (refine CallX.of (s15 n L hL _ ?_ ?_ [[115, 104, 111, 112], [100, 111, 110, 101], [99, 111, 109, 101], [103, 111, 110, 101]] (by simp) (by simp)) [(1000000, 1000000)] rfl ⟨lr, SV.le_lit rfl rfl, trivial⟩ ⟨rr, trivial⟩ rfl rfl ?_; rotate_right; rintro x rout ⟨⟨u3, hu3, rfl⟩, ⟨c, c1, c2, rfl⟩⟩; have hw3 := mem_len hu3 rfl; refine ⟨rfl, ?_⟩; conv => whnf) | (refine CallX.of (s15 n L hL _ ?_ ?_ [[115, 50], [115, 49], [115, 57]] (by simp) (by simp)) [(1000000, 1000000)] rfl ⟨lr, SV.le_lit rfl rfl, trivial⟩ ⟨rr, trivial⟩ rfl rfl ?_; rotate_right; rintro x rout ⟨⟨u4, hu4, rfl⟩, ⟨c, c1, c2, rfl⟩⟩; have hw4 := mem_len hu4 rfl; refine ⟨rfl, ?_⟩; conv => whnf) | (refine CallX.of (s15 n L hL _ ?_ ?_ [[109, 105, 110, 105], [109, 105, 100, 105], [110, 111, 110, 101]] (by simp) (by simp)) [(1000000, 1000000)] rfl ⟨lr, SV.le_lit rfl rfl, trivial⟩ ⟨rr, trivial⟩ rfl rfl ?_; rotate_right; rintro x rout ⟨⟨u5, hu5, rfl⟩, ⟨c, c1, c2, rfl⟩⟩; have hw5 := mem_len hu5 rfl; refine ⟨rfl, ?_⟩; conv => whnf) | (refine CallX.of (s15 n L hL _ ?_ ?_ [[53, 48], [49, 48, 48], [49, 48, 49]] (by simp) (by simp)) [(1000000, 1000000)] rfl ⟨lr, SV.le_lit rfl rfl, trivial⟩ ⟨rr, trivial⟩ rfl rfl ?_; rotate_right; rintro x rout ⟨⟨u6, hu6, rfl⟩, ⟨c, c1, c2, rfl⟩⟩; have hw6 := mem_len hu6 rfl; refine ⟨rfl, ?_⟩; conv => whnf) | (refine CallX.of (s15 n L hL _ ?_ ?_ [[48], [49, 48, 48], [57, 57, 57, 57, 57, 48]] (by simp) (by simp)) [(1000000, 1000000)] rfl ⟨lr, SV.le_lit rfl rfl, trivial⟩ ⟨rr, trivial⟩ rfl rfl ?_; rotate_right; rintro x rout ⟨⟨u7, hu7, rfl⟩, ⟨c, c1, c2, rfl⟩⟩; have hw7 := mem_len hu7 rfl; refine ⟨rfl, ?_⟩; conv => whnf) | (refine CallX.of (s15 n L hL _ ?_ ?_ [[56], [52], [57]] (by simp) (by simp)) [(1000000, 1000000)] rfl ⟨lr, SV.le_lit rfl rfl, trivial⟩ ⟨rr, trivial⟩ rfl rfl ?_; rotate_right; rintro x rout ⟨⟨u8, hu8, rfl⟩, ⟨c, c1, c2, rfl⟩⟩; have hw8 := mem_len hu8 rfl; refine ⟨rfl, ?_⟩; conv => whnf) | (refine CallX.of (s15 n L hL _ ?_ ?_ [[53], [51, 48, 48], [52, 48, 48]] (by simp) (by simp)) [(1000000, 1000000)] rfl ⟨lr, SV.le_lit rfl rfl, trivial⟩ ⟨rr, trivial⟩ rfl rfl ?_; rotate_right; rintro x rout ⟨⟨u9, hu9, rfl⟩, ⟨c, c1, c2, rfl⟩⟩; have hw9 := mem_len hu9 rfl; refine ⟨rfl, ?_⟩; conv => whnf) | (refine CallX.of (s15 n L hL _ ?_ ?_ [[56], [50]] (by simp) (by simp)) [(1000000, 1000000)] rfl ⟨lr, SV.le_lit rfl rfl, trivial⟩ ⟨rr, trivial⟩ rfl rfl ?_; rotate_right; rintro x rout ⟨⟨u10, hu10, rfl⟩, ⟨c, c1, c2, rfl⟩⟩; have hw10 := mem_len hu10 rfl; refine ⟨rfl, ?_⟩; conv => whnf) | (refine CallX.of (s33 n L hL _ ?_ ?_ [10, 60, 1440, 2000, -5] (by simp) (by simp)) [(1000000, 1000000)] rfl ⟨lr, SV.le_lit rfl rfl, trivial⟩ ⟨rr, trivial⟩ rfl rfl ?_; rotate_right; rintro x rout ⟨⟨n1, hn1, rfl⟩, ⟨c, c1, c2, rfl⟩⟩; have hm1 := mem_bd hn1 rfl; have hm1a := hm1.1; have hm1b := hm1.2; refine ⟨rfl, ?_⟩; conv => whnf) | (refine CallX.of (s33 n L hL _ ?_ ?_ [0, 10, 100] (by simp) (by simp)) [(1000000, 1000000)] rfl ⟨lr, SV.le_lit rfl rfl, trivial⟩ ⟨rr, trivial⟩ rfl rfl ?_; rotate_right; rintro x rout ⟨⟨n2, hn2, rfl⟩, ⟨c, c1, c2, rfl⟩⟩; have hm2 := mem_bd hn2 rfl; have hm2a := hm2.1; have hm2b := hm2.2; refine ⟨rfl, ?_⟩; conv => whnf) | (refine CallX.of (s86 n L hL _ ?_ ?_ _ ?_) [(1000000, 1000000)] rfl ⟨lr, lr, trivial⟩ ⟨rr, trivial⟩ rfl rfl ?_; rotate_right; rintro x rout ⟨⟨j, hj1, hj2, hj3, rfl⟩, ⟨c, c1, c2, rfl⟩⟩; refine ⟨rfl, ?_⟩; conv => whnf) | ((first | refine CallX.kn (zItoa _ (by omega) (by omega)) rfl rfl rfl rfl ?_ | (refine CallX.of (s15 n L hL _ (by omega) (by omega) [_, _, _, _, _, _, _, _] (by simp) (by simp)) [(1000000, 1000000)] rfl ⟨lr, SV.le_lit rfl rfl, trivial⟩ ⟨rr, trivial⟩ rfl rfl ?_; rintro x rout ⟨⟨z, hz, rfl⟩, ⟨c9, c91, c92, rfl⟩⟩; refine ⟨rfl, ?_⟩) | (refine And.intro (by simp only [List.length_append, List.toList_toArray, List.length_cons, List.length_nil]; have i1 := hI (at' + n1) (by omega) (by omega); first | omega | (have i2 := hI (at' + n2) (by omega) (by omega); omega)) ?_) | (refine br_intro ?_ ?_ <;> intro hb <;> try simp only [brs] at hb) | omega | refine sAx ?_ | decide | assumption) <;> conv => whnf))
 all_goals refine .ret _ ?_
 all_goals conv => whnf
 all_goals refine ⟨[(1000000, strm n L _), (1000009, KX)], ⟨⟨_, ?_, rfl⟩, ⟨_, ?_, ?_, rfl⟩⟩, rr, rr, trivial⟩
 all_goals first
  | omega
  | (have i1 := hI (at' + n1) (by omega) (by omega)
     first
      | (simp only [List.length_append, List.toList_toArray, List.length_cons, List.length_nil]
         first
          | omega
          | (have i2 := hI (at' + n2) (by omega) (by omega); omega))
      | (simp only [List.mem_cons, List.not_mem_nil, or_false] at hz
         rcases hz with rfl | rfl | rfl | rfl | rfl | rfl | rfl | rfl <;> simp only [List.length_append, List.toList_toArray, List.length_cons, List.length_nil] <;> omega))
def oQEnF30_9 : OL := [(0, []), (1, [0]), (2, [0, 1]), (3, [0, 1, 2]), (4, [0, 1]), (5, rg 5), (6, rg 6), (9, rg 7), (7, [0, 1, 2, 3, 4, 9]), (8, [9]), (10, [])]
def keyE : List DV → List UInt8
 | [.str s] => s
 | _ => []
abbrev mpE (g : List UInt8 → Int) : Res := .map false false [.str] [.int .i64 0] (fun K => decide (0 < g (keyE K))) (fun K => [.int .i64 (g (keyE K))])
def upE (g : List UInt8 → Int) (x : List UInt8) : List UInt8 → Int := fun s => if s = x then g x + 1 else g s
theorem wk_str1 {K : List DV} (h : wk [.str] K = true) : ∃ s, K = [.str s] := by
 match K, h with
 | [.str s], _ => exact ⟨s, rfl⟩
theorem mpE_up {g : List UInt8 → Int} {x : List UInt8} (h0 : ∀ k, 0 ≤ g k) :
 Res.le (.map false false [.str] [.int .i64 0] (fun q => keyEq q [.str x] || decide (0 < g (keyE q))) (fun q => bif keyEq q [.str x] then [.int .i64 (g x + 1)] else [.int .i64 (g (keyE q))])) (mpE (upE g x)) := Res.le_map fun K hK => by
 obtain ⟨s, rfl⟩ := wk_str1 hK
 have e : keyEq [.str s] [.str x] = decide (s = x) := by
  rw [Bool.eq_iff_iff]; simp [keyEq, keyEq1]
 rw [e]; show (decide (s = x) || decide (0 < g s)) = decide (0 < upE g x s) ∧ (bif decide (s = x) then [DV.int .i64 (g x + 1)] else [.int .i64 (g s)]) = [.int .i64 (upE g x s)]; unfold upE
 by_cases q : s = x
 · subst q; have := h0 s; simp; omega
 · simp [q]
theorem keyEq_one (x : List UInt8) : keyEq [.str x] [.str x] = true := by simp [keyEq, keyEq1]
def entG (x : Ent) : Prop := (x.desk.length ≤ 8 ∧ x.words.length ≤ 2^10) ∧ entR x
theorem pickE {u : Int} (h : u ∈ ([0, 1, 5, 10, 100, 500] : List Int)) : 0 ≤ u ∧ u ≤ 500 := by
 simp only [List.mem_cons, List.not_mem_nil, or_false] at h; omega
set_option maxHeartbeats 4000000 in
theorem lz9 (n : Nat) (L : Nat → Int) (hL : Rok n L) (a : Int) (h0 : 0 ≤ a) (ha : a ≤ 2^36) (m : Int) (hm1 : 0 ≤ m) (hm2 : m ≤ 19) :
 FSpec Tryz.prog 30 [.ptr 1000000 0, .d (.int .i64 m)] [(1000000, strm n L a), (1000009, KX)] (fun y r => ∃ l : List Ent, ∃ b, allK entG m.toNat l ∧ (a ≤ b ∧ b ≤ a + 1000) ∧ y = .buf 5 ∧ r = [(5, enB l), (1000000, strm n L b), (1000009, KX)]) := by
 refine spec_of hT (C := []) Tryz.func30 rfl Tryz.call30 rfl rfl rfl ?_; conv => whnf
 refine LoopX.rule hT (C := []) (ι := Int × List Ent × Nat × Int × (List UInt8 → Int)) (fun (b, l, k, t, g) => (a ≤ b ∧ b ≤ a + 50 * k ∧ (k : Int) ≤ m) ∧ allK entG k l ∧ (0 ≤ t ∧ t ≤ 2000 * k) ∧ (∀ s, 0 ≤ g s ∧ g s ≤ k))
  (fun (b, l, k, t, g) => mkSt [(0, .ptr 1000000 0), (5, .buf 5), (6, .d (.int .i64 t)), (7, .mp 7), (11, .d (.int .i64 m)), (12, .d (.int .i64 k))] [(1000000, strm n L b), (1000009, KX), (5, enB l), (7, mpE g)])
  (fun (_, _, k, _, _) => 30 - k) (a, [], 0, 0, fun _ => 0) ⟨⟨by simp, by simp, by simpa using hm1⟩, ⟨by simp, by simp⟩, ⟨by simp, by simp⟩, by simp⟩ ?_ ?_
 · refine (Entails.nil 5 5 52 4 (rowF enF en0 []) rfl rfl (by decide)).trans (Entails.mk' [(1000000, 1000000), (1000009, 1000009), (5, 5), (7, 10)] rfl rfl ⟨lr, lr, lr, lr, lr, lr, trivial⟩ ⟨rr, rr, rr, Res.le_map (fun key hk => ?_), trivial⟩); obtain ⟨s, rfl⟩ := wk_str1 hk; exact ⟨rfl, rfl⟩
 rintro ⟨b, l, k, t, g⟩ ⟨⟨p1, p2, p3⟩, q1, ⟨q2, q3⟩, q4⟩; have p1 : a ≤ b := p1; have p2 : b ≤ a + 50 * k := p2; have p3 : (k : Int) ≤ m := p3; have q2 : 0 ≤ t := q2; have q3 : t ≤ 2000 * k := q3; have hl1 := q1.1; conv => whnf
 repeat' (first | (refine CallX.of (s33 n L hL _ ?_ ?_ [0, 1, 5, 10, 100, 500] (by simp) (by simp)) [(1000000, 1000000)] rfl ⟨lr, SV.le_lit rfl rfl, trivial⟩ ⟨rr, trivial⟩ rfl rfl ?_; rotate_right; rintro x rout ⟨⟨u1, hu1, rfl⟩, ⟨c, c1, c2, rfl⟩⟩; have hb1 := pickE hu1; have hb2 := hb1.1; have hb3 := hb1.2; refine ⟨rfl, ?_⟩; conv => whnf) | (refine CallX.of (s15 n L hL _ ?_ ?_ [[100, 49], [100, 49], [100, 50], [100, 51]] (by simp) (by simp)) [(1000000, 1000000)] rfl ⟨lr, SV.le_lit rfl rfl, trivial⟩ ⟨rr, trivial⟩ rfl rfl ?_; rotate_right; rintro x rout ⟨⟨u2, hu2, rfl⟩, ⟨c, c1, c2, rfl⟩⟩; have hg2 := q4 u2; have hg3 : 0 ≤ g (keyE [DV.str u2]) := hg2.1; have hg4 : g (keyE [DV.str u2]) ≤ k := hg2.2; have hw2 := mem_len hu2 rfl; refine ⟨rfl, ?_⟩; conv => whnf) | (refine CallX.of (s15 n L hL _ ?_ ?_ [[], [65]] (by simp) (by simp)) [(1000000, 1000000)] rfl ⟨lr, SV.le_lit rfl rfl, trivial⟩ ⟨rr, trivial⟩ rfl rfl ?_; rotate_right; rintro x rout ⟨⟨u3, hu3, rfl⟩, ⟨c, c1, c2, rfl⟩⟩; have hw3 := mem_len hu3 rfl; refine ⟨rfl, ?_⟩; conv => whnf) | (refine CallX.of (s15 n L hL _ ?_ ?_ [[], [97, 10], [195]] (by simp) (by simp)) [(1000000, 1000000)] rfl ⟨lr, SV.le_lit rfl rfl, trivial⟩ ⟨rr, trivial⟩ rfl rfl ?_; rotate_right; rintro x rout ⟨⟨u4, hu4, rfl⟩, ⟨c, c1, c2, rfl⟩⟩; have hw4 := mem_len hu4 rfl; refine ⟨rfl, ?_⟩; conv => whnf) | (refine CallX.of (s104 n L hL _ ?_ ?_ 0 1000 ?_ ?_ ?_) [(1000000, 1000000)] rfl ⟨lr, lr, lr, trivial⟩ ⟨rr, trivial⟩ rfl rfl ?_; rotate_right; rintro x rout ⟨⟨u5, hk1, hk2, rfl⟩, ⟨c, c1, c2, rfl⟩⟩; refine ⟨rfl, ?_⟩; conv => whnf) | (refine CallX.of (s104 n L hL _ ?_ ?_ 1 1000000 ?_ ?_ ?_) [(1000000, 1000000)] rfl ⟨lr, lr, lr, trivial⟩ ⟨rr, trivial⟩ rfl rfl ?_; rotate_right; rintro x rout ⟨⟨u6, hk3, hk4, rfl⟩, ⟨c, c1, c2, rfl⟩⟩; refine ⟨rfl, ?_⟩; conv => whnf) | (refine CallX.of (s84 n L hL _ ?_ ?_ _ ?_) [(1000000, 1000000)] rfl ⟨lr, lr, trivial⟩ ⟨rr, trivial⟩ rfl rfl ?_; rotate_right; rintro x rout ⟨⟨f, rfl⟩, ⟨c, c1, c2, rfl⟩⟩; refine ⟨rfl, ?_⟩; conv => whnf) | (refine CallX.of (s86 n L hL _ ?_ ?_ _ ?_) [(1000000, 1000000)] rfl ⟨lr, lr, trivial⟩ ⟨rr, trivial⟩ rfl rfl ?_; rotate_right; rintro x rout ⟨⟨j, hj1, hj2, hj3, rfl⟩, ⟨c, c1, c2, rfl⟩⟩; refine ⟨rfl, ?_⟩; conv => whnf) | ((first | (refine CallX.of (lz59 n L hL _ (by omega) (by omega) (t + u1) (by omega) (by omega)) [(1000000, 1000000), (1000009, 1000009)] rfl ⟨lr, lr, trivial⟩ ⟨rr, rr, trivial⟩ rfl rfl ?_; rintro x rout ⟨⟨w, hw, rfl⟩, ⟨c5, c51, c52, rfl⟩⟩; refine ⟨rfl, ?_⟩) | refine And.intro (rfl : zrow _ = some [DV.int .i64 0]) ?_) <;> conv => whnf) | (simp only [Nat.beq_refl, cond_true]; conv => whnf) | (rw [keyEq_one, cond_true]; conv => whnf) | ((first | (refine br_intro ?_ ?_ <;> intro hb <;> try simp only [brs] at hb) | refine rAx hT 9 oQEnF30_9 ?_ | omega | refine sAx ?_ | decide | assumption) <;> conv => whnf))
 all_goals first
  | (refine ⟨(_, _, k + 1, _, upE g u2), ?_, ?_, Entails.mk' [(1000000, 1000000), (1000009, 1000009), (5, 62), (7, 7)] rfl rfl ⟨lr, lr, lr, lr, lr, lr, trivial⟩ ⟨rr, rr, Res.le_snocF (x := ⟨_, _, _, _⟩) rfl, mpE_up (fun s => (q4 s).1), trivial⟩⟩
     · dsimp only
       refine ⟨⟨by omega, by omega, by omega⟩, allK_snoc q1 (Nat.le_refl _) ⟨⟨?_, ?_⟩, ⟨?_, ?_⟩, ?_, ?_⟩, ⟨by omega, by omega⟩, fun s => ?_⟩
       · first
          | exact hw2
          | exact hw3
       · first
          | exact hw
          | exact Nat.le_trans hw4 (by omega)
       · (try dsimp only); omega
       · (try dsimp only); omega
       · (try dsimp only); omega
       · (try dsimp only); omega
       · have z1 := q4 s; have z2 := q4 u2; show 0 ≤ upE g u2 s ∧ upE g u2 s ≤ ((k + 1 : Nat) : Int); unfold upE; split <;> omega
     · show 30 - (k + 1) < 30 - k; omega)
  | skip
 refine oAx (en126 62 entCmp l (by omega) (fun p q hp hq => lz63 p q (q1.2 p hp).2 (q1.2 q hq).2)) [(1000001, 5)] ?_; rintro x rout ⟨rfl, e, he, rfl⟩; refine ⟨rfl, ?_⟩; have he1 := he.1; conv => whnf
 repeat' (first | ((first | (refine br_intro ?_ ?_ <;> intro hb <;> try simp only [brs] at hb) | refine rAx hT 9 oQEnF30_9 ?_ | omega | refine sAx ?_ | decide | assumption) <;> conv => whnf))
 refine .ret _ ?_; conv => whnf
 exact ⟨[(5, enB e), (1000000, strm n L b), (1000009, KX)], ⟨e, b, ⟨by omega, fun p hp => q1.2 p (he.2 p hp)⟩, ⟨by omega, by omega⟩, rfl, rfl⟩, rr, rr, rr, trivial⟩
theorem entG_ok {l : List Ent} {k : Nat} (h : allK entG k l) (hk : k ≤ 2^20) : entOk l :=
 ⟨by have := h.1; omega, fun x hx => by
   obtain ⟨⟨h1, h2⟩, h3⟩ := h.2 x hx
   exact ⟨⟨by omega, by omega⟩, h3⟩⟩
end Go.Proofs.YtophabkpfpbadaaGreatDoor
namespace Go.Eng
open Go
variable {A : Amb} {G : Hp} {β : Env} {s : St} {t : Array Value} {w : World}
theorem RegX.ent {P : Program} {id : Nat} {ops : Array Oper} {k : St → Prop} {s s' : St} (he : Entails s s') (h : RegX P id ops k s') : RegX P id ops k s :=
 ⟨fun A a w hN hm => h.wp A a w hN (he.imp A a w hm)⟩
theorem MG.counted (h : MG A G β s t w) {d : Nat} {ag va : Bool} {ks : List KK} {zr : List DV} {has : List DV → Bool} {val : List DV → List DV} (hd : s.res d = some (.map ag va ks zr has val)) :
 ∃ clock kb, KB ks has clock kb ∧ MG A G β (s.app ⟨none, .any, [(d, some (.mapB ag va ks zr has val clock kb))], []⟩) t w := by
 obtain ⟨r, es, clock, l, hb, hh, hl, hw, hI, hf⟩ := h.rs _ _ hd; exact ⟨clock, _, kb_of hl hw hI hf, h.change (d := d) (r' := .mapB ag va ks zr has val clock ((l.map (·.1)).zip (es.toList.map (·.born)))) (v := .map (some r)) (w' := w) hd rfl rfl hb rfl rfl rfl rfl (fun _ _ => rfl) ⟨r, es, l, hb, hh, hl, hw, hI, rfl, hf⟩⟩
theorem RegX.cnt {P : Program} {id : Nat} {ops : Array Oper} {k : St → Prop} {s : St} (d : Nat) {ag va : Bool} {ks : List KK} {zr : List DV} {has : List DV → Bool} {val : List DV → List DV} (hd : s.res d = some (.map ag va ks zr has val))
 (h : ∀ clock kb, KB ks has clock kb → RegX P id ops k (s.app ⟨none, .any, [(d, some (.mapB ag va ks zr has val clock kb))], []⟩)) : RegX P id ops k s := by
 refine ⟨fun A a w hN => ?_⟩; rintro ⟨h0, G, β, hm⟩; obtain ⟨clock, kb, hk, hm'⟩ := hm.counted hd; exact (h clock kb hk).wp A a w hN ⟨h0, G, β, hm'⟩
theorem Entails.unc {s : St} (d : Nat) {ag va : Bool} {ks : List KK} {zr : List DV} {has : List DV → Bool} {val : List DV → List DV} {clock : Nat} {kb : List (List DV × Nat)} (hd : s.res d = some (.mapB ag va ks zr has val clock kb)) :
 Entails s (s.app ⟨none, .any, [(d, some (.map ag va ks zr has val))], []⟩) := by
 refine ⟨fun A a w => ?_⟩; rintro ⟨h0, G, β, h⟩; obtain ⟨r, es, l, hb, hh, hl, hw, hI, hkb, hf⟩ := h.rs _ _ hd; exact ⟨h0, G, β, h.change (d := d) (r' := .map ag va ks zr has val) (v := .map (some r)) (w' := w) hd rfl rfl hb rfl rfl rfl rfl (fun _ _ => rfl) ⟨r, es, clock, l, hb, hh, hl, hw, hI, hf⟩⟩
theorem RegX.unc {P : Program} {id : Nat} {ops : Array Oper} {k : St → Prop} {s : St} (d : Nat) {ag va : Bool} {ks : List KK} {zr : List DV} {has : List DV → Bool} {val : List DV → List DV} {clock : Nat} {kb : List (List DV × Nat)} (hd : s.res d = some (.mapB ag va ks zr has val clock kb))
 (h : RegX P id ops k (s.app ⟨none, .any, [(d, some (.map ag va ks zr has val))], []⟩)) : RegX P id ops k s := .ent (.unc d hd) h
theorem nodup_le {α : Type} : ∀ (l L : List α), l.Nodup → (∀ x ∈ l, x ∈ L) → l.length ≤ L.length := by
 intro l
 induction l with
 | nil => intro L _ _; simp
 | cons x l ih =>
   intro L hn hL; obtain ⟨A, B, rfl⟩ := List.append_of_mem (hL x (by simp)); rw [List.nodup_cons] at hn
   have := ih (A ++ B) hn.2 (fun y hy => by
    have h1 := hL y (by simp [hy]); rw [List.mem_append, List.mem_cons] at h1; rcases h1 with q | q | q
    · exact List.mem_append_left _ q
    · subst q; exact absurd hy hn.1
    · exact List.mem_append_right _ q)
   simp at this ⊢; omega
theorem KB.le {ks : List KK} {has : List DV → Bool} {clock : Nat} {kb : List (List DV × Nat)} (h : KB ks has clock kb) : ∀ (L : List (List DV)), (∀ key, wk ks key = true → has key = true → key ∈ L) → kb.length ≤ L.length := by
 intro L hL
 have hs : ∀ x ∈ kb.map (·.1), x ∈ L := fun x hx => by
  obtain ⟨p, hp, rfl⟩ := List.mem_map.1 hx; exact hL _ (h.kw p hp) ((h.kh _ (h.kw p hp)).2 ⟨p.2, hp⟩)
 have hn : (kb.map (·.1)).Nodup := by
  have hw : ∀ x ∈ kb.map (·.1), wk ks x = true := fun x hx => by
   obtain ⟨p, hp, rfl⟩ := List.mem_map.1 hx; exact h.kw p hp
  refine List.Pairwise.imp_of_mem (fun {a b} ha _ hab => ?_) h.kd; rintro rfl; rw [keyEq_refl (hw a ha)] at hab; cases hab
 have := nodup_le _ _ hn hs; simpa using this
theorem Entails.cellFro {s : St} (c d j : Nat) {ce : TypeId} {l : List SV} {k n : Nat} {g : Nat → List DV} (hc : s.res c = some (.cells ce l)) (hj : l[j]? = some (.buf d)) (hd : s.res d = some (.fro k n g)) :
 Entails s (s.app ⟨none, .any, [(c, some (.cells ce (l.set j (.d (.ro k n g)))))], []⟩) := by
 refine ⟨fun A a w => ?_⟩; rintro ⟨h0, G, β, h⟩; obtain ⟨b, vs, hb, hh, hl, hv⟩ := h.rs _ _ hc; obtain ⟨v, hv1, hv2⟩ := h.rs _ _ hd; refine ⟨h0, G, β, h.change (d := c) (r' := .cells ce (l.set j (.d (.ro k n g)))) (v := .pointer (some ⟨b, 0, none⟩)) (w' := w) hc rfl rfl hb rfl rfl rfl rfl (fun _ _ => rfl) ⟨b, vs, hb, hh, by simpa using hl, fun i x u hx hu => ?_⟩⟩
 by_cases q : i = j
 · subst q; have hlt : i < l.length := (List.getElem?_eq_some_iff.1 hj).1; rw [List.getElem?_set_self hlt] at hx; cases hx; have := hv i _ u hj hu
   cases this with | buf _ _ hb2 _ =>
   rw [hv1] at hb2; cases hb2; exact .d _ _ hv2
 · rw [List.getElem?_set_ne (fun e => q e.symm)] at hx; exact hv i x u hx hu
end Go.Eng
set_option maxRecDepth 20000
namespace Go.Proofs.YtophabkpfpbadaaGreatDoor
open Go Go.Eng
def oQOfA89_3 : OL := [(0, []), (1, []), (2, [0, 1]), (3, []), (4, [])]
def oQOfA89_6 : OL := [(0, []), (1, []), (2, []), (3, [0, 1, 2]), (4, [])]
def oQOfA89_10 : OL := [(0, []), (1, []), (2, []), (3, [0, 1, 2]), (4, [])]
def oQOfA89_16 : OL := [(0, []), (1, []), (2, [0, 1]), (3, [0, 1, 2]), (4, [2]), (5, [])]
def oQOfA188_1 : OL := [(0, []), (1, []), (2, []), (3, []), (4, rg 4), (5, rg 4), (6, []), (7, rg 7), (12, rg 8), (8, [12]), (9, [12]), (10, [12]), (11, [12, 10]), (13, [11]), (14, [])]
def oQOfA188_2 : OL := [(0, []), (1, []), (2, []), (3, []), (4, rg 4), (5, rg 4), (6, rg 6), (7, rg 6), (8, rg 4), (9, []), (11, rg 10), (12, rg 10), (10, [11, 12]), (13, []), (14, []), (15, []), (16, [])]
def oQOfA189_1 : OL := [(0, []), (1, []), (2, []), (3, []), (4, rg 4), (5, rg 4), (6, rg 6), (7, rg 6), (8, rg 6), (9, rg 6), (10, rg 10), (11, rg 10), (12, rg 6), (13, rg 13), (14, rg 6), (15, rg 6), (16, rg 6), (17, [0, 1, 2, 3, 4, 5, 16]), (18, [17])]
def oQOfA189_2 : OL := [(0, []), (1, []), (2, []), (3, []), (4, rg 4), (5, rg 4), (6, rg 6), (7, rg 6), (8, rg 4), (9, [])]
def oQOfA189_3 : OL := [(0, []), (1, [0]), (2, [0]), (3, [0]), (4, [0]), (5, rg 5), (6, rg 5), (7, [0]), (8, []), (9, []), (10, [])]
structure Mp (α : Type) where
 has : List UInt8 → Bool
 val : List UInt8 → α
def Mp.put {α : Type} (m : Mp α) (x : List UInt8) (v : α) : Mp α := ⟨fun s => decide (s = x) || m.has s, fun s => if s = x then v else m.val s⟩
def Mp.del {α : Type} (m : Mp α) (x : List UInt8) (z : α) : Mp α := ⟨fun s => !decide (s = x) && m.has s, fun s => if s = x then z else m.val s⟩
def Mp.nil {α : Type} (z : α) : Mp α := ⟨fun _ => false, fun _ => z⟩
abbrev mpS {α : Type} (va : Bool) (z : List DV) (f : α → List DV) (m : Mp α) : Res := .map false va [.str] z (fun K => m.has (keyE K)) (fun K => f (m.val (keyE K)))
theorem keyEq_s (s x : List UInt8) : keyEq [.str s] [.str x] = decide (s = x) := by
 rw [Bool.eq_iff_iff]; simp [keyEq, keyEq1]
theorem mpS_put {α : Type} {va : Bool} {z : List DV} {f : α → List DV} {m : Mp α} {x : List UInt8} {v : α} :
 Res.le (.map false va [.str] z (fun q => keyEq q [.str x] || m.has (keyE q)) (fun q => bif keyEq q [.str x] then f v else f (m.val (keyE q)))) (mpS va z f (m.put x v)) := Res.le_map fun K hK => by
 obtain ⟨s, rfl⟩ := wk_str1 hK; rw [keyEq_s]; refine ⟨rfl, ?_⟩; show (bif decide (s = x) then f v else f (m.val s)) = f (if s = x then v else m.val s)
 by_cases q : s = x <;> simp [q]
theorem mpS_del {α : Type} {va : Bool} {z : α} {f : α → List DV} {m : Mp α} {x : List UInt8} :
 Res.le (.map false va [.str] (f z) (fun q => !keyEq q [.str x] && m.has (keyE q)) (fun q => bif keyEq q [.str x] then f z else f (m.val (keyE q)))) (mpS va (f z) f (m.del x z)) := Res.le_map fun K hK => by
 obtain ⟨s, rfl⟩ := wk_str1 hK; rw [keyEq_s]; refine ⟨rfl, ?_⟩; show (bif decide (s = x) then f z else f (m.val s)) = f (if s = x then z else m.val s)
 by_cases q : s = x <;> simp [q]
structure Bok where
 key : List UInt8
 cls : List UInt8
 frm : Int
 to : Int
 made : Int
 pct : Int
def bkF : Bok → List DV := fun b => [.str b.key, .str b.cls, .int .i64 b.frm, .int .i64 b.to, .int .i64 b.made, .int .i64 b.pct]
def bk0 : Bok := ⟨[], [], 0, 0, 0, 0⟩
abbrev boks (l : List Bok) : DV := seqD 6 bkF bk0 l
structure Evn where
 tm : Int
 veh : List UInt8
 st : List UInt8
 kind : Int
 to : List UInt8
def evF : Evn → List DV := fun x => [.int .i64 x.tm, .str x.veh, .str x.st, .int .i64 x.kind, .str x.to]
def ev0 : Evn := ⟨0, [], [], 0, []⟩
abbrev evns (l : List Evn) : DV := seqD 5 evF ev0 l
abbrev evB (l : List Evn) : Res := seqB 65 5 evF ev0 l
structure Stt where
 k : Int
 st : List UInt8
 sin : Int
def ssF : Stt → List DV := fun s => [.int .i64 s.k, .str s.st, .int .i64 s.sin]
def ss0 : Stt := ⟨0, [], 0⟩
structure Rfs where
 ent : Int
 why : Int
def rfF : Rfs → List DV := fun r => [.int .i64 r.ent, .int .i64 r.why]
def rf0 : Rfs := ⟨0, 0⟩
abbrev rfss (l : List Rfs) : DV := seqD 2 rfF rf0 l
abbrev rfB (l : List Rfs) : Res := seqB 55 2 rfF rf0 l
def folOk (s : Stt) (x : Evn) : Bool :=
 if x.kind = 1 then decide (s.k = 0) else if x.kind = 2 then decide (s.k = 1) && decide (s.st = x.st) else if x.kind = 3 then decide (s.k = 2)
 else if x.kind = 4 then decide (s.k = 1) && decide (s.st = x.st) else if x.kind = 5 then decide (s.k = 3) && decide (s.st = x.st)
 else if x.kind = 6 then decide (s.k = 1) && decide (s.st = x.st) else if x.kind = 7 then decide (s.k = 4) && decide (s.st = x.st)
 else if x.kind = 8 then decide (s.k = 1) && decide (s.st = x.st) else false
def folS (s : Stt) (x : Evn) : Stt :=
 if folOk s x then (if x.kind = 2 then ⟨2, [], x.tm⟩ else if x.kind = 4 then ⟨3, x.st, x.tm⟩ else if x.kind = 6 then ⟨4, x.to, x.tm⟩ else if x.kind = 8 then ⟨5, [], x.tm⟩ else ⟨1, x.st, x.tm⟩) else s
def lgO : Option Hir → DV
 | some h => legs h.legs
 | none => .nilsl
def hiO (o : Option Hir) : List DV := [.str (o.elim [] (·.key)), .str (o.elim [] (·.drv)), .int .i64 (o.elim 0 (·.frm)), .int .i64 (o.elim 0 (·.to)), lgO o]
theorem rowSV_eq {va : Bool} {row row' : List DV} {k : SV → Prop} (h : row = row') (hk : rowSV va row' k) : rowSV va row k := by rw [h]; exact hk
structure Off where
 sts : Mp Stt
 log : List Evn
 ats : List UInt8 → Int → Bool
 bks : Mp Bok
 his : Mp (Option Hir)
 paid : Mp Int
 ref : List Rfs
def sF1 : List UInt8 → List DV := fun s => [.str s]
def iF1 : Int → List DV := fun n => [.int .i64 n]
def bF1 : Bool → List DV := fun b => [.bool b]
def atH (a : List UInt8 → Int → Bool) : List DV → Bool
 | [.str v, .int .i64 t] => a v t
 | _ => false
abbrev atM (a : List UInt8 → Int → Bool) : Res := .map true false [.str, .int .i64] [.bool false] (atH a) (fun K => [.bool (atH a K)])
def atPut (a : List UInt8 → Int → Bool) (v : List UInt8) (t : Int) : List UInt8 → Int → Bool := fun w u => (decide (w = v) && decide (u = t)) || a w u
theorem atM_put {a : List UInt8 → Int → Bool} {v : List UInt8} {t : Int} :
 Res.le (.map true false [.str, .int .i64] [.bool false] (fun q => keyEq q [.str v, .int .i64 t] || atH a q) (fun q => bif keyEq q [.str v, .int .i64 t] then [.bool true] else [.bool (atH a q)])) (atM (atPut a v t)) := Res.le_map fun K hK => by
 obtain ⟨s, n, rfl⟩ := wk_si hK
 have e : keyEq [.str s, .int .i64 n] [.str v, .int .i64 t] = (decide (s = v) && decide (n = t)) := by
  rw [Bool.eq_iff_iff]; simp [keyEq, keyEq1]
 rw [e]; refine ⟨rfl, ?_⟩; show (bif decide (s = v) && decide (n = t) then [DV.bool true] else [.bool (a s n)]) = [.bool ((decide (s = v) && decide (n = t)) || a s n)]; cases (decide (s = v) && decide (n = t)) <;> rfl
abbrev houC (h : Hou) : List SV := fltL h.flt ++ tarL h.tar ++ (deaF h.dea).map .d
abbrev offC (h : Hou) : Res := .cells 114 (houC h ++ [.mp 1000002, .mp 1000003, .mp 1000004, .buf 1000005, .mp 1000006, .mp 1000007, .mp 1000008, .mp 1000010, .buf 1000011])
abbrev offR (h : Hou) (vm : Mp (List UInt8)) (sm : Mp Bool) (s : Off) : List (Nat × Res) :=
 [(1000001, offC h), (1000002, mpS false [.str []] sF1 vm), (1000003, mpS false [.bool false] bF1 sm), (1000004, mpS true (ssF ss0) ssF s.sts), (1000005, evB s.log), (1000006, atM s.ats), (1000007, mpS true (bkF bk0) bkF s.bks), (1000008, mpS true (hiO none) hiO s.his), (1000010, mpS false [.int .i64 0] iF1 s.paid), (1000011, rfB s.ref)]
set_option maxHeartbeats 2000000 in
theorem wFol (s : Stt) (x : Evn) : FSpec Tryz.prog 89 [.agg ((ssF s).map .d), .agg ((evF x).map .d)] [] (fun y r => y = .tup [.agg ((ssF (folS s x)).map .d), .d (.bool (folOk s x))] ∧ r = []) := by
 refine spec_of hT (C := []) Tryz.func89 rfl Tryz.call89 rfl rfl rfl ?_; conv => whnf
 repeat' (first | ((first | (refine br_intro ?_ ?_ <;> intro hb <;> try simp only [brs] at hb) | refine rAx hT 3 oQOfA89_3 ?_ | refine rAx hT 6 oQOfA89_6 ?_ | refine rAx hT 10 oQOfA89_10 ?_ | refine rAx hT 16 oQOfA89_16 ?_ | omega | refine sAx ?_ | decide | assumption) <;> conv => whnf))
 all_goals
  refine .ret _ ?_; conv => whnf
  refine ⟨[], ⟨congrArg SV.tup ?_, rfl⟩, trivial⟩; repeat' (refine cons_eq ?_ ?_)
  all_goals (conv => lhs; whnf)
  all_goals try (with_reducible rfl)
 all_goals first
  | rfl
  | (simp [folS, folOk, ssF, *]; done)
  | (simp [folS, folOk, ssF, *]; rfl)
abbrev offCo (h : Hou) : Res := .cells 114 (houC h ++ [.mp 1000002, .mp 1000003, .mp 1000004, .buf 50, .mp 1000006, .mp 1000007, .mp 1000008, .mp 1000010, .buf 1000011])
abbrev offO (h : Hou) (vm : Mp (List UInt8)) (sm : Mp Bool) (s : Off) : List (Nat × Res) :=
 [(1000001, offCo h), (1000002, mpS false [.str []] sF1 vm), (1000003, mpS false [.bool false] bF1 sm), (1000004, mpS true (ssF ss0) ssF s.sts), (50, evB s.log), (1000006, atM s.ats), (1000007, mpS true (bkF bk0) bkF s.bks), (1000008, mpS true (hiO none) hiO s.his), (1000010, mpS false [.int .i64 0] iF1 s.paid), (1000011, rfB s.ref)]
def canE (s : Off) (x : Evn) : Int := firstE [if s.ats x.veh x.tm then 6 else 0, if (!folOk (s.sts.val x.veh) x) then 11 else 0]
def sayS (s : Off) (x : Evn) : Off := { s with sts := s.sts.put x.veh (folS (s.sts.val x.veh) x), ats := atPut s.ats x.veh x.tm, log := s.log ++ [x] }
set_option maxHeartbeats 2000000 in
theorem wCan (h : Hou) (vm : Mp (List UInt8)) (sm : Mp Bool) (s : Off) (x : Evn) : FSpec Tryz.prog 188 [.ptr 1000001 0, .agg ((evF x).map .d)] (offR h vm sm s) (fun y r => y = .d (.int .i64 (canE s x)) ∧ r = offR h vm sm s) := by
 refine spec_of hT (C := []) Tryz.func188 rfl Tryz.call188 rfl rfl rfl ?_; conv => whnf
 repeat' (first | (refine CallX.pure (wFol _ x) ⟨lr, lr, trivial⟩ rfl ?_; conv => whnf) | (refine CallX.exact (s107 _ _) rfl rfl ?_; rotate_right; conv => whnf) | ((first | refine And.intro (rfl : zrow _ = some (ssF ss0)) ?_ | refine And.intro (rfl : zrow _ = some [DV.bool false]) ?_ | refine CallX.pure (s105 [_, _] (by simp)) ⟨SV.le_lit (by rfl) (by rfl), trivial⟩ rfl ?_ | (refine br_intro ?_ ?_ <;> intro hb <;> try simp only [brs] at hb) | refine rAx hT 1 oQOfA188_1 ?_ | refine rAx hT 2 oQOfA188_2 ?_ | omega | refine sAx ?_ | decide | assumption) <;> conv => whnf))
 refine .ret _ ?_; conv => whnf
 exact ⟨offR h vm sm s, ⟨rfl, rfl⟩, rr, rr, rr, rr, rr, rr, rr, rr, rr, rr, trivial⟩
set_option maxHeartbeats 2000000 in
theorem wSay (h : Hou) (vm : Mp (List UInt8)) (sm : Mp Bool) (s : Off) (x : Evn) (hl : s.log.length ≤ 2^20) : FSpec Tryz.prog 189 [.ptr 1000001 0, .agg ((evF x).map .d)] (offR h vm sm s) (fun y r => y = .tup [] ∧ r = offO h vm sm (sayS s x)) := by
 refine spec_of hT (C := []) Tryz.func189 rfl Tryz.call189 rfl rfl rfl ?_; conv => whnf
 repeat' (first | ((first | refine CallX.pure (wFol _ x) ⟨lr, lr, trivial⟩ rfl ?_ | refine And.intro (rfl : zrow _ = some (ssF ss0)) ?_ | refine And.intro (rfl : zrow _ = some [DV.bool false]) ?_ | (refine br_intro ?_ ?_ <;> intro hb <;> try simp only [brs] at hb) | refine rAx hT 1 oQOfA189_1 ?_ | refine rAx hT 2 oQOfA189_2 ?_ | refine rAx hT 3 oQOfA189_3 ?_ | omega | refine sAx ?_ | decide | assumption) <;> conv => whnf))
 refine .ent _ _ (Entails.mk' (ts := []) (rs := offO h vm sm (sayS s x)) [(1000001, 1000001), (1000002, 1000002), (1000003, 1000003), (1000004, 1000004), (50, 38), (1000006, 1000006), (1000007, 1000007), (1000008, 1000008), (1000010, 1000010), (1000011, 1000011)] rfl rfl trivial ⟨rr, rr, rr, mpS_put, Res.le_snocF (x := x) rfl, atM_put, rr, rr, rr, rr, trivial⟩) ?_; refine .ret _ ?_; conv => whnf
 exact ⟨_, ⟨rfl, rfl⟩, rr, rr, rr, rr, rr, rr, rr, rr, rr, rr, trivial⟩
end Go.Proofs.YtophabkpfpbadaaGreatDoor
