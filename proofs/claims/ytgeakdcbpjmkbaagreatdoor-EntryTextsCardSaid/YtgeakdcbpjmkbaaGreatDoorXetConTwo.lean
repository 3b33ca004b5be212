/- EntryTexts is proved: for every input the law returns true, and its argument reads afterwards as it read before. Conditions: those of the given row alone. -/
import Derived.Test.YtgeakdcbpjmkbaaGreatDoorXetConOne
import Derived.Test.YtgeakdcbpjmkbaaGreatDoorXetEngTwo
import Derived.Test.YtgeakdcbpjmkbaaGreatDoorXetEngMap
import Derived.Shelf.Strings.Search3
set_option linter.unusedVariables false
set_option linter.unusedSimpArgs false
set_option maxRecDepth 20000
namespace Go.Proofs.YtgeakdcbpjmkbaaGreatDoor
open Go Go.Eng
structure Nw.Bip (G : Nw) (B : Nat → Bool) : Prop where
 fr : ∀ k, k < G.K → G.fr k < G.N ∧ B (G.fr k) = true
 to : ∀ k, k < G.K → G.to k < G.N ∧ B (G.to k) = false
structure Nw.Fl (G : Nw) (B : Nat → Bool) (h w g : Nat → Int) : Prop where
 g0 : ∀ k, k < G.K → 0 ≤ g k
 src : ∀ v, v < G.N → B v = true → G.net g v ≤ h v
 dst : ∀ v, v < G.N → B v = false → G.net g v = - w v
theorem Nw.Bip.net_src {G : Nw} {B : Nat → Bool} (hb : G.Bip B) {g : Nat → Int} (h0 : ∀ k, k < G.K → 0 ≤ g k) {v : Nat} (hv : B v = true) : 0 ≤ G.net g v := by
 refine su_nn fun k hk => ?_
 have := (hb.to k hk).2
 have h1 : ¬ G.to k = v := fun q => by rw [q, hv] at this; cases this
 have := h0 k hk
 rw [if_neg h1]
 split <;> omega
theorem Nw.Bip.net_dst {G : Nw} {B : Nat → Bool} (hb : G.Bip B) {g : Nat → Int} (h0 : ∀ k, k < G.K → 0 ≤ g k) {v : Nat} (hv : B v = false) : G.net g v ≤ 0 := by
 have h : G.net g v ≤ su (fun _ => 0) G.K := su_le fun k hk => by
  have := (hb.fr k hk).2
  have h1 : ¬ G.fr k = v := fun q => by rw [q, hv] at this; cases this
  have := h0 k hk
  simp only [if_neg h1]
  split <;> omega
 rwa [su_zero (fun _ _ => rfl)] at h
theorem Nw.Bip.fl {G : Nw} {B : Nat → Bool} (hb : G.Bip B) {h w : Nat → Int} (hh : ∀ v, v < G.N → B v = false → h v = 0) (hw : ∀ v, v < G.N → B v = true → w v = 0) (g : Nat → Int) : G.Fills h w g ↔ G.Fl B h w g := by
 constructor
 · rintro ⟨h0, h1⟩
   refine ⟨h0, fun v hv q => ?_, fun v hv q => ?_⟩
   · have := h1 v hv; have := hw v hv q; omega
   · have := h1 v hv; have := hh v hv q; omega
 · intro hg
   refine ⟨hg.g0, fun v hv => ?_⟩
   cases q : B v
   · have := hg.dst v hv q; have := hh v hv q; omega
   · have := hg.src v hv q; have := hw v hv q; have := hb.net_src hg.g0 q; omega
def Nw.sh (G : Nw) (a : Nat) : Nw := ⟨G.K - a, G.N, fun k => G.fr (a + k), fun k => G.to (a + k), fun k => G.c (a + k)⟩
theorem Nw.Bip.sh {G : Nw} {B : Nat → Bool} (h : G.Bip B) (a : Nat) : (G.sh a).Bip B :=
 ⟨fun k hk => h.fr (a + k) (by have hk : k < G.K - a := hk; omega), fun k hk => h.to (a + k) (by have hk : k < G.K - a := hk; omega)⟩
def vcons (u : Int) (x : Nat → Int) : Nat → Int
 | 0 => u
 | k + 1 => x k
def vtl (x : Nat → Int) : Nat → Int := fun k => x (k + 1)
theorem su_cons (F : Nat → Int) : ∀ n, su F (n + 1) = F 0 + su (fun k => F (k + 1)) n
 | 0 => by simp [su]
 | n + 1 => by rw [su, su_cons F n, su]; omega
theorem Nw.net_cons {G : Nw} {a : Nat} (ha : a < G.K) (x : Nat → Int) (v : Nat) : (G.sh a).net x v = (if G.fr a = v then x 0 else 0) - (if G.to a = v then x 0 else 0) + (G.sh (a + 1)).net (vtl x) v := by
 unfold Nw.net
 have e : (G.sh a).K = (G.sh (a + 1)).K + 1 := by show G.K - a = G.K - (a + 1) + 1; omega
 rw [e, su_cons]
 congr 1
 refine su_congr fun k _ => ?_
 show (if G.fr (a + (k + 1)) = v then x (k + 1) else 0) - (if G.to (a + (k + 1)) = v then x (k + 1) else 0) = (if G.fr (a + 1 + k) = v then x (k + 1) else 0) - (if G.to (a + 1 + k) = v then x (k + 1) else 0)
 rw [show a + (k + 1) = a + 1 + k by omega]
def les (h : Nat → Int) (v : Nat) (u : Int) : Nat → Int := upd h v (h v - u)
theorem les_at (h : Nat → Int) (v i : Nat) (u : Int) : les h v u i = h i - (if v = i then u else 0) := by
 unfold les upd
 by_cases q : i = v
 · rw [if_pos q, if_pos q.symm, q]
 · rw [if_neg q, if_neg (fun z => q z.symm)]; omega
theorem Nw.fl_cons {G : Nw} {B : Nat → Bool} (hb : G.Bip B) {a : Nat} (ha : a < G.K) {h w x : Nat → Int} : (G.sh a).Fl B h w x ↔ 0 ≤ x 0 ∧ (G.sh (a + 1)).Fl B (les h (G.fr a) (x 0)) (les w (G.to a) (x 0)) (vtl x) := by
 have hf := hb.fr a ha
 have ht := hb.to a ha
 constructor
 · intro hx
   refine ⟨hx.g0 0 (by show 0 < G.K - a; omega), fun k hk => hx.g0 (k + 1) (by have hk : k < G.K - (a + 1) := hk; show k + 1 < G.K - a; omega), fun v hv q => ?_, fun v hv q => ?_⟩
   · have h1 := hx.src v hv q
     rw [Nw.net_cons ha] at h1
     have : ¬ G.to a = v := fun z => by rw [z, q] at ht; cases ht.2
     rw [if_neg this] at h1
     rw [les_at]; omega
   · have h1 := hx.dst v hv q
     rw [Nw.net_cons ha] at h1
     have : ¬ G.fr a = v := fun z => by rw [z, q] at hf; cases hf.2
     rw [if_neg this] at h1
     rw [les_at]; omega
 · rintro ⟨h0, hx⟩
   refine ⟨fun k hk => ?_, fun v hv q => ?_, fun v hv q => ?_⟩
   · cases k with
     | zero => exact h0
     | succ k => exact hx.g0 k (by have hk : k + 1 < G.K - a := hk; show k < G.K - (a + 1); omega)
   · have h1 := hx.src v hv q
     rw [les_at] at h1
     rw [Nw.net_cons ha]
     have : ¬ G.to a = v := fun z => by rw [z, q] at ht; cases ht.2
     rw [if_neg this]; omega
   · have h1 := hx.dst v hv q
     rw [les_at] at h1
     rw [Nw.net_cons ha]
     have : ¬ G.fr a = v := fun z => by rw [z, q] at hf; cases hf.2
     rw [if_neg this]; omega
theorem Nw.Fl.first {G : Nw} {B : Nat → Bool} (hb : G.Bip B) {a : Nat} (ha : a < G.K) {h w x : Nat → Int} (hx : (G.sh a).Fl B h w x) : 0 ≤ x 0 ∧ x 0 ≤ h (G.fr a) ∧ x 0 ≤ w (G.to a) := by
 obtain ⟨h0, hx2⟩ := (Nw.fl_cons hb ha).1 hx
 have hf := hb.fr a ha
 have ht := hb.to a ha
 have h1 := hx2.src _ hf.1 hf.2
 have h2 := hx2.dst _ ht.1 ht.2
 have h3 := (hb.sh (a + 1)).net_src hx2.g0 hf.2
 have h4 := (hb.sh (a + 1)).net_dst hx2.g0 ht.2
 rw [les_at, if_pos rfl] at h1 h2
 omega
def Nw.IsOpt (G : Nw) (B : Nat → Bool) (h w : Nat → Int) (c : Int) : Prop := (∃ g, G.Fl B h w g ∧ G.cost g = c) ∧ ∀ g, G.Fl B h w g → c ≤ G.cost g
def Bef (n : Nat) (x y : Nat → Int) : Prop := ∃ k, k < n ∧ (∀ j, j < k → x j = y j) ∧ 1 ≤ x k ∧ (y k = 0 ∨ x k < y k)
structure Nw.Best (G : Nw) (B : Nat → Bool) (h w : Nat → Int) (c : Int) (x : Nat → Int) : Prop where
 fl : G.Fl B h w x
 cost : G.cost x = c
 le : ∀ y, G.Fl B h w y → c ≤ G.cost y
 bef : ∀ y, G.Fl B h w y → G.cost y = c → (∀ k, k < G.K → y k = x k) ∨ Bef G.K x y
theorem Nw.best_end {G : Nw} {B : Nat → Bool} {h w : Nat → Int} {c : Int} (h1 : (G.sh G.K).IsOpt B h w c) (x : Nat → Int) : (G.sh G.K).Best B h w c x := by
 have hK : (G.sh G.K).K = 0 := by show G.K - G.K = 0; omega
 obtain ⟨⟨g, hg, hgc⟩, hle⟩ := h1
 have hn : ∀ (y : Nat → Int) v, (G.sh G.K).net y v = 0 := fun y v => by unfold Nw.net; rw [hK]; rfl
 have hc : ∀ y : Nat → Int, (G.sh G.K).cost y = 0 := fun y => by unfold Nw.cost; rw [hK]; rfl
 refine ⟨⟨fun k hk => by omega, fun v hv q => ?_, fun v hv q => ?_⟩, ?_, hle, fun y _ _ => .inl fun k hk => by omega⟩
 · have := hg.src v hv q; rw [hn] at this ⊢; exact this
 · have := hg.dst v hv q; rw [hn] at this ⊢; exact this
 · rw [hc] at hgc ⊢; exact hgc
theorem vtl_cons (u : Int) (x : Nat → Int) : vtl (vcons u x) = x := rfl
def cmpF {α : Type} (c : α → α → Int) : List α → List α → Int
 | [], [] => 0
 | [], _ :: _ => -1
 | _ :: _, [] => 1
 | a :: l, b :: m => if c a b = 0 then cmpF c l m else c a b
structure COrd {α : Type} (c : α → α → Int) : Prop where
 eq : ∀ a b, c a b = 0 ↔ a = b
 sw : ∀ a b, c a b < 0 ↔ 0 < c b a
 tr : ∀ a b d, c a b < 0 → c b d < 0 → c a d < 0
theorem COrd.refl {α : Type} {c : α → α → Int} (h : COrd c) (a : α) : c a a = 0 := (h.eq a a).2 rfl
theorem COrd.list {α : Type} {c : α → α → Int} (h : COrd c) : COrd (cmpF c) := by
 refine ⟨?_, ?_, ?_⟩
 · intro a
   induction a with
   | nil => intro b; cases b <;> simp [cmpF]
   | cons x a ih =>
     intro b
     cases b with
     | nil => simp [cmpF]
     | cons y b =>
       rw [cmpF]
       by_cases q : c x y = 0
       · rw [if_pos q, ih]
         have := (h.eq x y).1 q
         subst this
         simp
       · rw [if_neg q]
         have : ¬ x = y := fun z => q ((h.eq x y).2 z)
         simp [q, this]
 · intro a
   induction a with
   | nil => intro b; cases b <;> simp [cmpF]
   | cons x a ih =>
     intro b
     cases b with
     | nil => simp [cmpF]
     | cons y b =>
       rw [cmpF, cmpF]
       by_cases q : c x y = 0
       · have := (h.eq x y).1 q
         subst this
         rw [if_pos q, if_pos q]; exact ih b
       · have : ¬ c y x = 0 := fun z => q ((h.eq x y).2 ((h.eq y x).1 z).symm)
         rw [if_neg q, if_neg this]; exact h.sw x y
 · intro a
   induction a with
   | nil =>
     intro b d
     cases b with
     | nil => simp [cmpF]
     | cons y b => cases d <;> simp [cmpF]
   | cons x a ih =>
     intro b d
     cases b with
     | nil => simp [cmpF]
     | cons y b =>
       cases d with
       | nil =>
         intro _ h2
         simp [cmpF] at h2
       | cons z d =>
         rw [cmpF, cmpF, cmpF]
         by_cases q : c x y = 0
         · have := (h.eq x y).1 q
           subst this
           rw [if_pos q]
           by_cases w : c x z = 0
           · rw [if_pos w, if_pos w]; exact ih b d
           · rw [if_neg w, if_neg w]; exact fun _ h2 => h2
         · rw [if_neg q]
           by_cases w : c y z = 0
           · have := (h.eq y z).1 w
             subst this
             rw [if_pos w, if_neg q]; exact fun h1 _ => h1
           · rw [if_neg w]
             intro h1 h2
             have h3 := h.tr x y z h1 h2
             rw [if_neg (by omega)]; exact h3
structure Pla (μ : Type) where
 l : List μ
 cost : Int
def Pla.app {μ : Type} (p : Pla μ) (s : List μ) (d : Int) : Pla μ := ⟨p.l ++ s, p.cost + d⟩
def lessP {μ : Type} (c : μ → μ → Int) (p q : Pla μ) : Bool := if p.cost ≠ q.cost then decide (p.cost < q.cost) else decide (cmpF c p.l q.l < 0)
abbrev PMap (μ : Type) := List UInt8 → Option (Pla μ)
def MinOf {μ : Type} (c : μ → μ → Int) (M : PMap μ) (S : List UInt8 → Pla μ → Prop) : Prop :=
 ∀ σ, match M σ with
  | none => ∀ p, ¬ S σ p
  | some q => S σ q ∧ ∀ p, S σ p → lessP c p q = false
theorem MinOf.congr {μ : Type} {c : μ → μ → Int} {M : PMap μ} {S S' : List UInt8 → Pla μ → Prop} (h : MinOf c M S) (hs : ∀ σ p, S σ p ↔ S' σ p) : MinOf c M S' := by
 intro σ
 have := h σ
 cases q : M σ with
 | none => rw [q] at this; exact fun p hp => this p ((hs σ p).2 hp)
 | some r => rw [q] at this; exact ⟨(hs σ r).1 this.1, fun p hp => this.2 p ((hs σ p).2 hp)⟩
structure Stn (μ : Type) where
 way : Nat → Option Int
 mv : Nat → Int → μ
 many : Int
def stL (st : List UInt8) (k : Nat) (n : Int) : List UInt8 := st.set k (UInt8.ofNat ((st.getD k 0).toNat - n.toNat))
inductive Cd {μ : Type} (s : Stn μ) : Nat → Nat → List UInt8 → Int → List UInt8 → List μ → Int → Prop
 | fin (k : Nat) (st : List UInt8) (left : Int) : Cd s 0 k st left st [] 0
 | skip (d k : Nat) (st : List UInt8) (left : Int) (st' : List UInt8) (suf : List μ) (dc : Int) (h : Cd s d (k + 1) st left st' suf dc) : Cd s (d + 1) k st left st' suf dc
 | some (d k : Nat) (st : List UInt8) (left : Int) (st' : List UInt8) (suf : List μ) (dc n car : Int) (hw : s.way k = some car) (h1 : 1 ≤ n) (h2 : n ≤ left) (h3 : n ≤ (st.getD k 0).toNat) (h : Cd s d (k + 1) (stL st k n) (left - n) st' suf dc) : Cd s (d + 1) k st left st' (s.mv k n :: suf) (n * car + dc)
def lsV {μ : Type} (m : Nat → Int → μ) : Nat → Nat → (Nat → Int) → List μ
 | 0, _, _ => []
 | n + 1, a, x => (if 0 < x 0 then [m a (x 0)] else []) ++ lsV m n (a + 1) (vtl x)
structure Lay {μ : Type} (G : Nw) (B : Nat → Bool) (S J : Nat) (ns nw : Nat → Nat) (stn : Nat → Stn μ) (m : Nat → Int → μ) (pos : Nat → Nat → Nat) : Prop where
 pend : pos S 0 = G.K
 pnext : ∀ i, i < S → pos (i + 1) 0 = pos i J
 pnone : ∀ i k, i < S → k < J → (stn i).way k = none → pos i (k + 1) = pos i k
 psome : ∀ i k car, i < S → k < J → (stn i).way k = some car → pos i (k + 1) = pos i k + 1 ∧ pos i k < G.K ∧ G.fr (pos i k) = ns i ∧ G.to (pos i k) = nw k ∧ G.c (pos i k) = car ∧ ∀ n, m (pos i k) n = (stn i).mv k n
 ns1 : ∀ i, i < S → ns i < G.N ∧ B (ns i) = true
 ns2 : ∀ i j, i < S → j < S → ns i = ns j → i = j
 nw1 : ∀ k, k < J → nw k < G.N ∧ B (nw k) = false
 nw2 : ∀ k j, k < J → j < J → nw k = nw j → k = j
 all : ∀ v, v < G.N → B v = false → ∃ k, k < J ∧ v = nw k
structure Rel {μ : Type} (G : Nw) (B : Nat → Bool) (S J : Nat) (ns nw : Nat → Nat) (stn : Nat → Stn μ) (i : Nat) (st : List UInt8) (left : Int) (h w : Nat → Int) : Prop where
 l0 : 0 ≤ left
 hi : i < S → h (ns i) = left
 later : ∀ j, i < j → j < S → h (ns j) = (stn j).many
 other : ∀ v, v < G.N → B v = true → (∀ j, i ≤ j → j < S → v ≠ ns j) → 0 ≤ h v
 want : ∀ k, k < J → w (nw k) = (st.getD k 0).toNat
def onRd (l : List Roa) (a b : List UInt8) (i : Nat) : Bool := (l.getD i rd0).a == a && (l.getD i rd0).b == b
def roadX (l : List Roa) (a b : List UInt8) : Int := ixF (onRd l a b) l.length
theorem rds_all {l : List Roa} (h : rdsE l = 0) : l.length ≤ 2500 ∧ ∀ i, i < l.length → rdE l i = 0 := by
 unfold rdsE at h
 split at h
 · cases h
 · exact ⟨by omega, firstAt_all h⟩
theorem rd_bd {l : List Roa} (h : rdsE l = 0) {i : Nat} (hi : i < l.length) : (0 ≤ (l.getD i rd0).car ∧ (l.getD i rd0).car ≤ 1000000) ∧ 0 ≤ (l.getD i rd0).ride ∧ (l.getD i rd0).ride ≤ 1000000 := by
 have := (rds_all h).2 i hi
 unfold rdE at this
 simp only at this
 grind
theorem roadX_bd (l : List Roa) (a b : List UInt8) : -1 ≤ roadX l a b ∧ roadX l a b < l.length ∧ (0 ≤ roadX l a b → onRd l a b (roadX l a b).toNat = true) := ixF_bd
def roadO (l : List Roa) (a b : List UInt8) : Option Roa := if 0 ≤ roadX l a b then some (l.getD (roadX l a b).toNat rd0) else none
theorem roadO_bd {l : List Roa} (h : rdsE l = 0) {a b : List UInt8} {x : Roa} (hx : roadO l a b = some x) : (0 ≤ x.car ∧ x.car ≤ 1000000) ∧ 0 ≤ x.ride ∧ x.ride ≤ 1000000 := by
 unfold roadO at hx
 have := roadX_bd l a b
 split at hx
 · cases hx
   exact rd_bd h (by omega)
 · cases hx
structure Ar3 where
 fr : Nat
 to : Nat
 car : Int
def a30 : Ar3 := ⟨0, 0, 0⟩
def manyP (n : List Ned) (i : Nat) : Int := (n.getD i nd0).many
def wayO (n : List Ned) (r : List Roa) (i k : Nat) : Option Int := (roadO r (n.getD i nd0).st (n.getD k nd0).st).map (·.car)
def arRow (n : List Ned) (r : List Roa) (i : Nat) : List Ar3 := (List.range n.length).filterMap fun k => if 0 < manyP n i ∧ manyP n k < 0 then (wayO n r i k).map fun c => ⟨i, k, c⟩ else none
def arL (n : List Ned) (r : List Roa) : List Ar3 := (List.range n.length).flatMap (arRow n r)
def nwG (n : List Ned) (r : List Roa) : Nw := ⟨(arL n r).length, n.length, fun k => ((arL n r).getD k a30).fr, fun k => ((arL n r).getD k a30).to, fun k => ((arL n r).getD k a30).car⟩
def kindB (n : List Ned) (v : Nat) : Bool := !decide (manyP n v < 0)
theorem arL_mem {n : List Ned} {r : List Roa} {x : Ar3} (h : x ∈ arL n r) : (x.fr < n.length ∧ 0 < manyP n x.fr) ∧ (x.to < n.length ∧ manyP n x.to < 0) ∧ wayO n r x.fr x.to = some x.car := by
 unfold arL at h
 rw [List.mem_flatMap] at h
 obtain ⟨i, hi, h⟩ := h
 unfold arRow at h
 rw [List.mem_filterMap] at h
 obtain ⟨k, hk, h⟩ := h
 rw [List.mem_range] at hi hk
 split at h
 · rename_i q
   rw [Option.map_eq_some_iff] at h
   obtain ⟨c, hc, rfl⟩ := h
   exact ⟨⟨hi, q.1⟩, ⟨hk, q.2⟩, hc⟩
 · cases h
theorem nwG_at {n : List Ned} {r : List Roa} {k : Nat} (hk : k < (nwG n r).K) : (arL n r).getD k a30 ∈ arL n r := getD_mem hk
theorem nwG_ok {n : List Ned} {r : List Roa} (hr : rdsE r = 0) : (nwG n r).Ok ∧ ∀ k, k < (nwG n r).K → (nwG n r).c k ≤ 1000000 := by
 have hc : ∀ k, k < (nwG n r).K → 0 ≤ (nwG n r).c k ∧ (nwG n r).c k ≤ 1000000 := fun k hk => by
  have h := (arL_mem (nwG_at hk)).2.2
  unfold wayO at h
  rw [Option.map_eq_some_iff] at h
  obtain ⟨x, hx, e⟩ := h
  have := (roadO_bd hr hx).1
  show 0 ≤ ((arL n r).getD k a30).car ∧ ((arL n r).getD k a30).car ≤ 1000000
  omega
 exact ⟨⟨fun k hk => (arL_mem (nwG_at hk)).1.1, fun k hk => (arL_mem (nwG_at hk)).2.1.1, fun k hk => (hc k hk).1⟩, fun k hk => (hc k hk).2⟩
theorem cmpS_lt {a b : List UInt8} : cmpS a b < 0 ↔ Op.bytesLess a b = true := by
 unfold cmpS
 constructor
 · intro h; by_cases q : Op.bytesLess a b = true
   · exact q
   · rw [if_neg q] at h; split at h <;> omega
 · intro h; rw [if_pos h]; omega
theorem cmpS_zero {a b : List UInt8} : cmpS a b = 0 ↔ a = b := by
 constructor
 · intro h
   by_cases e : a = b
   · exact e
   · exfalso
     cases q : Op.bytesLess a b
     · have h2 := less_tri _ _ q e
       unfold cmpS at h
       rw [q, h2] at h
       simp at h
     · have := cmpS_lt.2 q
       omega
 · rintro rfl; unfold cmpS; simp [less_irr]
theorem cmpI_zero {a b : Int} : cmpI a b = 0 ↔ a = b := by unfold cmpI; split <;> (try split) <;> omega
def oXEnA150_1 : List (Nat × List Nat) := [(0, []), (1, []), (2, [0, 1]), (3, [0, 1]), (5, [0, 1, 2, 3]), (6, [0, 1, 2, 3]), (7, [0, 1, 2, 3, 5, 6]), (8, [0, 1, 2, 3, 5, 6]), (10, [0, 1, 2, 3, 5, 6, 7, 8]), (11, [0, 1, 2, 3, 5, 6, 7, 8]), (12, [0, 1, 2, 3, 5, 6, 7, 8, 10, 11]), (13, [0, 1, 2, 3, 5, 6, 7, 8, 10, 11]), (4, [5, 6, 7, 8, 10, 11, 12, 13]), (9, [10, 11, 12, 13]), (14, []), (15, []), (16, []), (17, [])]
def prB (s : List UInt8) : Bool := s.all fun b => decide (32 ≤ b.toNat) && decide (b.toNat ≤ 126)
theorem prB_iff {s : List UInt8} : prB s = true ↔ ∀ j, j < s.length → 32 ≤ (s.getD j 0).toNat ∧ (s.getD j 0).toNat ≤ 126 := by
 unfold prB
 rw [List.all_eq_true]
 constructor
 · intro h j hj
   have := h _ (getD_mem (x := 0) hj)
   simpa using this
 · intro h x hx
   obtain ⟨i, hi, rfl⟩ := mem_getD (d := 0) hx
   simpa using h i hi
theorem prB_bad {s : List UInt8} {i : Nat} (hi : i < s.length) (h : ¬ (32 ≤ (s.getD i 0).toNat ∧ (s.getD i 0).toNat ≤ 126)) : prB s = false := by
 cases q : prB s with
 | false => rfl
 | true => exact absurd (prB_iff.1 q i hi) h
theorem lz149 (s : List UInt8) (hl : s.length ≤ 2^40) : FSpec Tryz.prog 149 [.d (.str s)] [] (fun x r => x = .d (.bool (prB s)) ∧ r = []) := by
 refine spec_of hT (C := []) Tryz.func149 rfl Tryz.call149 rfl rfl rfl ?_
 conv => whnf
 refine LoopX.rule hT (C := []) (ι := Nat) (fun i => i ≤ s.length ∧ ∀ j, j < i → 32 ≤ (s.getD j 0).toNat ∧ (s.getD j 0).toNat ≤ 126) (fun i => mkSt [(0, .d (.str s)), (5, .d (.int .i64 s.length)), (6, .d (.int .i64 i))] []) (fun i => s.length - i) 0 ⟨by omega, by omega⟩ (by (refine Entails.mk' [] rfl rfl ?_ ?_ <;> repeat' (first | exact True.intro | exact lr | exact rr | exact SV.le_int (by omega) | exact SV.le_any _ | refine And.intro ?_ ?_)); done) ?_
 rintro i ⟨p1, p2⟩
 have e1 : (i : Int).toNat = i := Int.toNat_natCast i
 conv => whnf
 repeat' (first | (refine br_intro ?_ ?_ <;> intro hb <;> (try simp only [brs] at hb) <;> conv => whnf) | omega | (refine And.intro ?_ ?_; ((try dsimp only); first | omega | (refine szA rfl ?_; omega) | (refine szB rfl ?_; omega) | (unfold inI64; omega) | exact rfl | (simp only [List.toList_toArray, List.length_cons, List.length_nil]; omega) | (simp only [lns] at *; omega) | decide | (unfold inI64; decide)); conv => whnf) | decide | assumption)
 · refine .ret _ ?_
   conv => whnf
   refine ⟨[], ⟨?_, rfl⟩, trivial⟩
   conv => lhs; whnf
   rw [prB_bad (i := i) (by omega) (by omega)]
 · refine .ret _ ?_
   conv => whnf
   refine ⟨[], ⟨?_, rfl⟩, trivial⟩
   conv => lhs; whnf
   rw [prB_bad (i := i) (by omega) (by omega)]
 · exact ⟨i + 1, ⟨by omega, all_step p2 (by omega)⟩, by omega, (by (refine Entails.mk' [] rfl rfl ?_ ?_ <;> repeat' (first | exact True.intro | exact lr | exact rr | exact SV.le_int (by omega) | exact SV.le_any _ | refine And.intro ?_ ?_)); done)⟩
 · refine .ret _ ?_
   conv => whnf
   refine ⟨[], ⟨?_, rfl⟩, trivial⟩
   conv => lhs; whnf
   have : i = s.length := by omega
   subst this
   rw [prB_iff.2 p2]
def entCmp (a b : Ent) : Int := firstE [cmpI a.tm b.tm, cmpS a.desk b.desk, cmpI a.no b.no]
theorem lz150 (a b : Ent) : FSpec Tryz.prog 150 [.agg ((enF a).map .d), .agg ((enF b).map .d)] [] (fun x r => x = .d (.int .i64 (entCmp a b)) ∧ r = []) := by
 refine spec_of hT (C := []) Tryz.func150 rfl Tryz.call150 rfl rfl rfl ?_
 conv => whnf
 repeat' (first | (refine CallX.exact (s184 _ _) rfl rfl ?_; rotate_right; conv => whnf) | (refine CallX.exact (s183 _ _) rfl rfl ?_; rotate_right; conv => whnf) | (refine CallX.pure (s182 [_, _, _] (by simp)) ⟨SV.le_lit (by rfl) (by rfl), trivial⟩ rfl ?_; conv => whnf) | (refine br_intro ?_ ?_ <;> intro hb <;> (try simp only [brs] at hb) <;> conv => whnf) | (refine RegX.rule (id := 1) hT rfl [] oXEnA150_1 (by decide +kernel) ?_; conv => whnf) | omega | (refine And.intro ?_ ?_; ((try dsimp only); first | omega | (refine szA rfl ?_; omega) | (refine szB rfl ?_; omega) | (unfold inI64; omega) | exact rfl | (simp only [List.toList_toArray, List.length_cons, List.length_nil]; omega) | (simp only [lns] at *; omega) | decide | (unfold inI64; decide)); conv => whnf) | decide | assumption)
 refine .ret _ ?_
 conv => whnf
 refine ⟨[], ⟨?_, rfl⟩, trivial⟩
 conv => lhs; whnf
 rfl
theorem lz147 (n : Int) : FSpec Tryz.prog 147 [.d (.int .i64 n)] [] (fun x r => x = .d (.int .i64 (cmpI n 0)) ∧ r = []) := by
 refine spec_of hT (C := []) Tryz.func147 rfl Tryz.call147 rfl rfl rfl ?_
 conv => whnf
 repeat' (first | (refine br_intro ?_ ?_ <;> intro hb <;> (try simp only [brs] at hb) <;> conv => whnf) | omega | (refine And.intro ?_ ?_; ((try dsimp only); first | omega | (refine szA rfl ?_; omega) | (refine szB rfl ?_; omega) | (unfold inI64; omega) | exact rfl | (simp only [List.toList_toArray, List.length_cons, List.length_nil]; omega) | (simp only [lns] at *; omega) | decide | (unfold inI64; decide)); conv => whnf) | decide | assumption)
 all_goals
  refine .ret _ ?_
  conv => whnf
  refine ⟨[], ⟨?_, rfl⟩, trivial⟩
  conv => lhs; whnf
  congr 2
  unfold cmpI
  grind
def entR (a : Ent) : Prop := (-2^40 ≤ a.tm ∧ a.tm ≤ 2^40) ∧ (-2^40 ≤ a.no ∧ a.no ≤ 2^40)
theorem cmpI_sub (a b : Int) : cmpI (a - b) 0 = cmpI a b := by unfold cmpI; grind
theorem lz63 (a b : Ent) (ha : entR a) (hb0 : entR b) : FSpec Tryz.prog 63 [.agg ((enF a).map .d), .agg ((enF b).map .d)] [] (fun x r => x = .d (.int .i64 (entCmp a b)) ∧ r = []) := by
 obtain ⟨⟨a1, a2⟩, a3, a4⟩ := ha
 obtain ⟨⟨b1, b2⟩, b3, b4⟩ := hb0
 refine spec_of hT (C := []) Tryz.func63 rfl Tryz.call63 rfl rfl rfl ?_
 conv => whnf
 repeat' (first | (refine CallX.exact (lz147 _) rfl rfl ?_; rotate_right; conv => whnf) | (refine CallX.exact (s190 _ _) rfl rfl ?_; rotate_right; conv => whnf) | (refine br_intro ?_ ?_ <;> intro hb <;> (try simp only [brs] at hb) <;> conv => whnf) | omega | (refine And.intro ?_ ?_; ((try dsimp only); first | omega | (refine szA rfl ?_; omega) | (refine szB rfl ?_; omega) | (unfold inI64; omega) | exact rfl | (simp only [List.toList_toArray, List.length_cons, List.length_nil]; omega) | (simp only [lns] at *; omega) | decide | (unfold inI64; decide)); conv => whnf) | decide | assumption)
 · refine .ret _ ?_
   conv => whnf
   refine ⟨[], ⟨?_, rfl⟩, trivial⟩
   conv => lhs; whnf
   congr 2
   have h0 : ¬ cmpI a.tm b.tm = 0 := fun q => hb (cmpI_zero.1 q)
   rw [cmpI_sub]
   unfold entCmp
   simp only [firstE]
   rw [if_neg h0]
 · rename_i hb1
   refine .ret _ ?_
   conv => whnf
   refine ⟨[], ⟨?_, rfl⟩, trivial⟩
   conv => lhs; whnf
   congr 2
   have h0 : cmpI a.tm b.tm = 0 := cmpI_zero.2 (by omega)
   have h1 : ¬ cmpS a.desk b.desk = 0 := fun q => hb (cmpS_zero.1 q)
   unfold entCmp
   simp only [firstE]
   rw [if_pos h0, if_neg h1]
 · rename_i hb1
   refine .ret _ ?_
   conv => whnf
   refine ⟨[], ⟨?_, rfl⟩, trivial⟩
   conv => lhs; whnf
   congr 2
   have h0 : cmpI a.tm b.tm = 0 := cmpI_zero.2 (by omega)
   have h1 : cmpS a.desk b.desk = 0 := cmpS_zero.2 (by simpa using hb)
   rw [cmpI_sub]
   unfold entCmp
   simp only [firstE]
   rw [if_pos h0, if_pos h1]
   split <;> simp_all
def oXEnB198_4 : List (Nat × List Nat) := [(0, []), (1, [0]), (2, []), (3, []), (4, []), (5, [4]), (6, [4, 5]), (7, [4]), (8, [4]), (9, [4, 5, 6, 7, 8]), (10, [4, 5, 6, 7, 8, 9]), (11, [4, 5, 6, 7, 8, 9]), (12, [4, 5, 6, 7, 8]), (13, [4, 5, 6, 7, 8]), (14, []), (15, []), (16, [])]
def oXEnB198_6 : List (Nat × List Nat) := [(0, []), (1, [0]), (2, [0, 1]), (3, [0, 1, 2]), (4, [0, 1, 2]), (5, [0, 1, 2, 3, 4]), (6, [0, 1, 2, 3, 4, 5]), (7, [0, 1, 2, 3, 4, 5]), (8, [0, 1, 2, 3, 4]), (9, [0, 1, 2, 3, 4]), (10, [0, 1, 2, 3, 4, 5, 6, 7, 8, 9]), (11, [0, 1, 2, 3, 4, 5, 6, 7, 8, 9, 10]), (12, [0, 1, 2, 3, 4, 5, 6, 7, 8, 9]), (13, [0, 1, 2, 3, 4, 5, 6, 7, 8, 9]), (14, [2, 3, 4]), (15, [2, 3, 4]), (16, []), (17, [])]
def sameE (l c : List Ent) : Prop := c.length = l.length ∧ ∀ x ∈ c, x ∈ l
theorem sameE_set {l c : List Ent} {j : Nat} {x : Ent} (h : sameE l c) (hx : x ∈ l) : sameE l (c.set j x) :=
 ⟨by rw [List.length_set]; exact h.1, fun y hy => by rcases List.mem_or_eq_of_mem_set hy with q | q; exact h.2 y q; subst q; exact hx⟩
theorem en208 (g : FuncId) (cmp : Ent → Ent → Int) (l : List Ent) (hl : l.length ≤ 2^40)
 (hcmp : ∀ p q, p ∈ l → q ∈ l → FSpec Tryz.prog g [.agg ((enF p).map .d), .agg ((enF q).map .d)] [] (fun y r => y = .d (.int .i64 (cmp p q)) ∧ r = [])) :
 FSpec Tryz.prog 198 [.buf 1000001, .d (.int .i64 0), .d (.int .i64 l.length), .fn g []] [(1000001, seqB 39 4 enF en0 l)]
  (fun y r => y = .tup [] ∧ ∃ c, sameE l c ∧ r = [(1000001, seqB 39 4 enF en0 c)]) := by
 refine spec_of hT (C := []) Tryz.func198 rfl Tryz.call198 rfl rfl rfl ?_
 conv => whnf
 repeat' (first | (refine br_intro ?_ ?_ <;> intro hb <;> (try simp only [brs] at hb) <;> conv => whnf) | (refine RegX.rule (id := 4) hT rfl [] oXEnB198_4 (by decide +kernel) ?_; conv => whnf) | (refine RegX.rule (id := 6) hT rfl [] oXEnB198_6 (by decide +kernel) ?_; conv => whnf) | omega | (refine And.intro ?_ ?_; ((try dsimp only); first | omega | (refine szA rfl ?_; omega) | (refine szB rfl ?_; omega) | (unfold inI64; omega) | exact rfl | (simp only [List.toList_toArray, List.length_cons, List.length_nil]; omega) | (simp only [lns] at *; omega) | decide | (unfold inI64; decide)); conv => whnf) | decide | assumption)
 refine LoopX.rule hT (C := []) (ι := Nat × List Ent) (fun (i, c) => 1 ≤ i ∧ (i ≤ l.length ∨ i = 1) ∧ sameE l c)
  (fun (i, c) => mkSt [(0, .buf 1000001), (1, .d (.int .i64 0)), (2, .d (.int .i64 l.length)), (3, .fn g []), (8, .d (.int .i64 i))] [(1000001, seqB 39 4 enF en0 c)])
  (fun (i, _) => l.length - i) (1, l) ⟨by simp, by simp, rfl, fun x h => h⟩ (by (refine Entails.mk' [(1000001, 1000001)] rfl rfl ?_ ?_ <;> repeat' (first | exact True.intro | exact lr | exact rr | exact SV.le_int (by omega) | exact SV.le_any _ | refine And.intro ?_ ?_)); done) ?_
 rintro ⟨i, c⟩ ⟨p1, p2, p3⟩
 have hc0 := p3.1
 conv => whnf
 repeat' (first | (refine br_intro ?_ ?_ <;> intro hb <;> (try simp only [brs] at hb) <;> conv => whnf) | (refine RegX.rule (id := 4) hT rfl [] oXEnB198_4 (by decide +kernel) ?_; conv => whnf) | (refine RegX.rule (id := 6) hT rfl [] oXEnB198_6 (by decide +kernel) ?_; conv => whnf) | omega | (refine And.intro ?_ ?_; ((try dsimp only); first | omega | (refine szA rfl ?_; omega) | (refine szB rfl ?_; omega) | (unfold inI64; omega) | exact rfl | (simp only [List.toList_toArray, List.length_cons, List.length_nil]; omega) | (simp only [lns] at *; omega) | decide | (unfold inI64; decide)); conv => whnf) | decide | assumption)
 · refine LoopX.rule hT (C := []) (ι := Nat × List Ent) (fun (j, c) => j ≤ i ∧ sameE l c)
    (fun (j, c) => mkSt [(0, .buf 1000001), (1, .d (.int .i64 0)), (2, .d (.int .i64 l.length)), (3, .fn g []), (8, .d (.int .i64 i)), (9, .d (.int .i64 j))] [(1000001, seqB 39 4 enF en0 c)])
    (fun (j, _) => j) (i, c) ⟨Nat.le_refl _, p3⟩ (by (refine Entails.mk' [(1000001, 1000001)] rfl rfl ?_ ?_ <;> repeat' (first | exact True.intro | exact lr | exact rr | exact SV.le_int (by omega) | exact SV.le_any _ | refine And.intro ?_ ?_)); done) ?_
   rintro ⟨j, b⟩ ⟨q1, q3⟩
   have hb0 := q3.1
   conv => whnf
   repeat' (first | (refine br_intro ?_ ?_ <;> intro hb <;> (try simp only [brs] at hb) <;> conv => whnf) | (refine RegX.rule (id := 4) hT rfl [] oXEnB198_4 (by decide +kernel) ?_; conv => whnf) | (refine RegX.rule (id := 6) hT rfl [] oXEnB198_6 (by decide +kernel) ?_; conv => whnf) | omega | (refine And.intro ?_ ?_; ((try dsimp only); first | omega | (refine szA rfl ?_; omega) | (refine szB rfl ?_; omega) | (unfold inI64; omega) | exact rfl | (simp only [List.toList_toArray, List.length_cons, List.length_nil]; omega) | (simp only [lns] at *; omega) | decide | (unfold inI64; decide)); conv => whnf) | decide | assumption)
   · refine CallX.of (hcmp (b.getD (j : Int).toNat en0) (b.getD ((j : Int) - 1).toNat en0) (q3.2 _ (getD_mem (by omega))) (q3.2 _ (getD_mem (by omega)))) [] rfl ⟨lr, lr, trivial⟩ trivial rfl rfl ?_
     rintro x rout ⟨rfl, rfl⟩
     refine ⟨rfl, ?_⟩
     conv => whnf
     repeat' (first | (refine br_intro ?_ ?_ <;> intro hb <;> (try simp only [brs] at hb) <;> conv => whnf) | (refine RegX.rule (id := 4) hT rfl [] oXEnB198_4 (by decide +kernel) ?_; conv => whnf) | (refine RegX.rule (id := 6) hT rfl [] oXEnB198_6 (by decide +kernel) ?_; conv => whnf) | omega | (refine And.intro ?_ ?_; ((try dsimp only); first | omega | (refine szA rfl ?_; omega) | (refine szB rfl ?_; omega) | (unfold inI64; omega) | exact rfl | (simp only [List.toList_toArray, List.length_cons, List.length_nil]; omega) | (simp only [lns] at *; omega) | decide | (unfold inI64; decide)); conv => whnf) | decide | assumption)
     · refine ⟨(j - 1, _), ⟨by omega, sameE_set (sameE_set q3 (q3.2 _ (getD_mem (i := ((j : Int) - 1).toNat) (x := en0) (by omega)))) (q3.2 _ (getD_mem (i := (j : Int).toNat) (x := en0) (by omega)))⟩, by show j - 1 < j; omega, Entails.mk' [(1000001, 1000001)] rfl rfl ⟨lr, lr, lr, lr, lr, SV.le_int (by omega), trivial⟩ ⟨Res.le_put2 (fun _ => rfl) (fun _ => rfl), trivial⟩⟩
     · exact ⟨(i + 1, b), ⟨by omega, by omega, q3⟩, by show l.length - (i + 1) < l.length - i; omega, (by (refine Entails.mk' [(1000001, 1000001)] rfl rfl ?_ ?_ <;> repeat' (first | exact True.intro | exact lr | exact rr | exact SV.le_int (by omega) | exact SV.le_any _ | refine And.intro ?_ ?_)); done)⟩
   · exact ⟨(i + 1, b), ⟨by omega, by omega, q3⟩, by show l.length - (i + 1) < l.length - i; omega, (by (refine Entails.mk' [(1000001, 1000001)] rfl rfl ?_ ?_ <;> repeat' (first | exact True.intro | exact lr | exact rr | exact SV.le_int (by omega) | exact SV.le_any _ | refine And.intro ?_ ?_)); done)⟩
 · refine .ret _ ?_
   conv => whnf
   exact ⟨_, ⟨rfl, c, p3, rfl⟩, rr, trivial⟩
theorem en175 (g : FuncId) (cmp : Ent → Ent → Int) (l : List Ent) (hl : l.length < 20)
 (hcmp : ∀ p q, p ∈ l → q ∈ l → FSpec Tryz.prog g [.agg ((enF p).map .d), .agg ((enF q).map .d)] [] (fun y r => y = .d (.int .i64 (cmp p q)) ∧ r = [])) :
 FSpec Tryz.prog 146 [.buf 1000001, .d (.int .i64 l.length), .fn g []] [(1000001, seqB 39 4 enF en0 l)]
  (fun y r => y = .tup [] ∧ ∃ c, sameE l c ∧ r = [(1000001, seqB 39 4 enF en0 c)]) := by
 refine spec_of hT (C := []) Tryz.func146 rfl Tryz.call146 rfl rfl rfl ?_
 conv => whnf
 refine LoopX.rule hT (C := []) (ι := Unit) (fun _ => True) (fun _ => mkSt [(0, .buf 1000001), (1, .d (.int .i64 l.length)), (2, .fn g []), (6, .d (.int .i64 20)), (7, .d (.int .i64 0)), (8, .d (.int .i64 20))] [(1000001, seqB 39 4 enF en0 l)]) (fun _ => 0) () trivial (by (refine Entails.mk' [(1000001, 1000001)] rfl rfl ?_ ?_ <;> repeat' (first | exact True.intro | exact lr | exact rr | exact SV.le_int (by omega) | exact SV.le_any _ | refine And.intro ?_ ?_)); done) ?_
 rintro ⟨⟩ -
 conv => whnf
 repeat' (first | (refine br_intro ?_ ?_ <;> intro hb <;> (try simp only [brs] at hb) <;> conv => whnf) | omega | (refine And.intro ?_ ?_; ((try dsimp only); first | omega | (refine szA rfl ?_; omega) | (refine szB rfl ?_; omega) | (unfold inI64; omega) | exact rfl | (simp only [List.toList_toArray, List.length_cons, List.length_nil]; omega) | (simp only [lns] at *; omega) | decide | (unfold inI64; decide)); conv => whnf) | decide | assumption)
 refine CallX.of (en208 g cmp l (by omega) hcmp) [(1000001, 1000001)] rfl ⟨lr, lr, lr, lr, trivial⟩ ⟨rr, trivial⟩ rfl rfl ?_
 rintro x rout ⟨rfl, c, hc, rfl⟩
 refine ⟨rfl, ?_⟩
 conv => whnf
 refine LoopX.rule hT (C := []) (ι := Unit) (fun _ => True) (fun _ => mkSt [(0, .buf 1000001), (1, .d (.int .i64 l.length)), (2, .fn g []), (6, .d (.int .i64 20))] [(1000001, seqB 39 4 enF en0 c)]) (fun _ => 0) () trivial (by (refine Entails.mk' [(1000001, 1000001)] rfl rfl ?_ ?_ <;> repeat' (first | exact True.intro | exact lr | exact rr | exact SV.le_int (by omega) | exact SV.le_any _ | refine And.intro ?_ ?_)); done) ?_
 rintro ⟨⟩ -
 conv => whnf
 repeat' (first | (refine br_intro ?_ ?_ <;> intro hb <;> (try simp only [brs] at hb) <;> conv => whnf) | omega | (refine And.intro ?_ ?_; ((try dsimp only); first | omega | (refine szA rfl ?_; omega) | (refine szB rfl ?_; omega) | (unfold inI64; omega) | exact rfl | (simp only [List.toList_toArray, List.length_cons, List.length_nil]; omega) | (simp only [lns] at *; omega) | decide | (unfold inI64; decide)); conv => whnf) | decide | assumption)
 refine .ret _ ?_
 conv => whnf
 exact ⟨_, ⟨rfl, c, hc, rfl⟩, rr, trivial⟩
theorem en126 (g : FuncId) (cmp : Ent → Ent → Int) (l : List Ent) (hl : l.length < 20)
 (hcmp : ∀ p q, p ∈ l → q ∈ l → FSpec Tryz.prog g [.agg ((enF p).map .d), .agg ((enF q).map .d)] [] (fun y r => y = .d (.int .i64 (cmp p q)) ∧ r = [])) :
 FSpec Tryz.prog 62 [.buf 1000001, .fn g []] [(1000001, seqB 39 4 enF en0 l)]
  (fun y r => y = .tup [] ∧ ∃ c, sameE l c ∧ r = [(1000001, seqB 39 4 enF en0 c)]) := by
 refine spec_of hT (C := []) Tryz.func62 rfl Tryz.call62 rfl rfl rfl ?_
 conv => whnf
 repeat' (first | (refine br_intro ?_ ?_ <;> intro hb <;> (try simp only [brs] at hb) <;> conv => whnf) | omega | (refine And.intro ?_ ?_; ((try dsimp only); first | omega | (refine szA rfl ?_; omega) | (refine szB rfl ?_; omega) | (unfold inI64; omega) | exact rfl | (simp only [List.toList_toArray, List.length_cons, List.length_nil]; omega) | (simp only [lns] at *; omega) | decide | (unfold inI64; decide)); conv => whnf) | decide | assumption)
 refine CallX.of (en175 g cmp l hl hcmp) [(1000001, 1000001)] rfl ⟨lr, lr, lr, trivial⟩ ⟨rr, trivial⟩ rfl rfl ?_
 rintro x rout ⟨rfl, c, hc, rfl⟩
 refine ⟨rfl, ?_⟩
 conv => whnf
 refine .ret _ ?_
 conv => whnf
 exact ⟨_, ⟨rfl, c, hc, rfl⟩, rr, trivial⟩
def oXEnC17_6 : List (Nat × List Nat) := [(0, []), (1, [0]), (2, []), (3, []), (4, [0, 1, 2, 3]), (5, [0, 1, 2, 3, 4]), (6, [0, 1, 2, 3]), (7, [0, 1, 2, 3]), (8, [])]
def oXEnC12_9 : List (Nat × List Nat) := [(0, []), (1, []), (2, []), (3, []), (4, [3]), (5, [3]), (6, []), (7, []), (8, [3, 4, 5, 6, 7]), (9, []), (10, []), (11, [])]
theorem ent_eq {a b : Ent} : a = b ↔ ((a.tm = b.tm ∧ a.desk = b.desk) ∧ a.no = b.no) ∧ a.words = b.words := by cases a; cases b; simp [and_assoc]
instance : DecidableEq Ent := fun _ _ => decidable_of_iff _ ent_eq.symm
theorem lz17 (l m : List Ent) (hl : l.length ≤ 2^40) : FSpec Tryz.prog 17 [.d (ents l), .d (ents m)] [] (fun x r => x = .d (.bool (decide (l = m))) ∧ r = []) := by
 refine spec_of hT (C := []) Tryz.func17 rfl Tryz.call17 rfl rfl rfl ?_
 conv => whnf
 repeat' (first | (refine br_intro ?_ ?_ <;> intro hb <;> (try simp only [brs] at hb) <;> conv => whnf) | (refine RegX.rule (id := 6) hT rfl [] oXEnC17_6 (by decide +kernel) ?_; conv => whnf) | omega | (refine And.intro ?_ ?_; ((try dsimp only); first | omega | (refine szA rfl ?_; omega) | (refine szB rfl ?_; omega) | (unfold inI64; omega) | exact rfl | (simp only [List.toList_toArray, List.length_cons, List.length_nil]; omega) | (simp only [lns] at *; omega) | decide | (unfold inI64; decide)); conv => whnf) | decide | assumption)
 · refine .ret _ ?_
   conv => whnf
   refine ⟨[], ⟨?_, rfl⟩, trivial⟩
   conv => lhs; whnf
   have : ¬ l = m := fun q => by subst q; simp at hb
   simp [this]
 have hlen : l.length = m.length := by
  omega
 refine LoopX.rule hT (C := []) (ι := Nat) (fun i => i ≤ l.length ∧ ∀ j, j < i → l.getD j en0 = m.getD j en0) (fun i => mkSt [(0, .d (ents l)), (1, .d (ents m)), (12, .d (.int .i64 l.length)), (13, .d (.int .i64 i))] []) (fun i => l.length - i) 0 ⟨by simp, fun j hj => absurd hj (Nat.not_lt_zero j)⟩ (by (refine Entails.mk' [] rfl rfl ?_ ?_ <;> repeat' (first | exact True.intro | exact lr | exact rr | exact SV.le_int (by omega) | exact SV.le_any _ | refine And.intro ?_ ?_)); done) ?_
 rintro i ⟨p1, p2⟩
 have e1 : (i : Int).toNat = i := Int.toNat_natCast i
 conv => whnf
 repeat' (first | (refine br_intro ?_ ?_ <;> intro hb <;> (try simp only [brs] at hb) <;> conv => whnf) | (refine RegX.rule (id := 6) hT rfl [] oXEnC17_6 (by decide +kernel) ?_; conv => whnf) | omega | (refine And.intro ?_ ?_; ((try dsimp only); first | omega | (refine szA rfl ?_; omega) | (refine szB rfl ?_; omega) | (unfold inI64; omega) | exact rfl | (simp only [List.toList_toArray, List.length_cons, List.length_nil]; omega) | (simp only [lns] at *; omega) | decide | (unfold inI64; decide)); conv => whnf) | decide | assumption)
 · refine .ret _ ?_
   conv => whnf
   refine ⟨[], ⟨?_, rfl⟩, trivial⟩
   conv => lhs; whnf
   have : ¬ l = m := fun q => by subst q; simp at hb
   simp [this]
 · exact ⟨i + 1, ⟨by omega, all_step p2 (by rw [ent_eq]; simpa [and_assoc] using hb)⟩, by omega, (by (refine Entails.mk' [] rfl rfl ?_ ?_ <;> repeat' (first | exact True.intro | exact lr | exact rr | exact SV.le_int (by omega) | exact SV.le_any _ | refine And.intro ?_ ?_)); done)⟩
 · refine .ret _ ?_
   conv => whnf
   refine ⟨[], ⟨?_, rfl⟩, trivial⟩
   conv => lhs; whnf
   have : i = l.length := by omega
   subst this
   simp [eq_of_getD en0 hlen p2]
def enHas (l : List Ent) : List DV → Bool
 | [.str a, .int .i64 b] => l.any fun y => y.desk == a && decide (y.no = b)
 | _ => false
def dupE (l : List Ent) (x : Ent) : Bool := enHas l [.str x.desk, .int .i64 x.no]
abbrev enR (l : List Ent) : Res := .map true false [.str, .int .i64] [.bool false] (enHas l) (fun k => [.bool (enHas l k)])
def eqE (y x : Ent) : Bool := y.desk == x.desk && decide (y.no = x.no)
def ecell (x : Ent) : Res := .cells 39 ((enF x).map .d)
theorem lz71 (y x : Ent) : FSpec Tryz.prog 71 [.agg ((enF y).map .d), .ptr 1000001 0] [(1000001, ecell x)] (fun v r => v = .d (.bool (eqE y x)) ∧ r = [(1000001, ecell x)]) := by
 refine spec_of hT (C := []) Tryz.func71 rfl Tryz.call71 rfl rfl rfl ?_
 conv => whnf
 repeat' (first | (refine br_intro ?_ ?_ <;> intro hb <;> (try simp only [brs] at hb) <;> conv => whnf) | omega | (refine And.intro ?_ ?_; ((try dsimp only); first | omega | (refine szA rfl ?_; omega) | (refine szB rfl ?_; omega) | (unfold inI64; omega) | exact rfl | (simp only [List.toList_toArray, List.length_cons, List.length_nil]; omega) | (simp only [lns] at *; omega) | decide | (unfold inI64; decide)); conv => whnf) | decide | assumption)
 all_goals
  refine .ret _ ?_
  conv => whnf
  refine ⟨[(1000001, ecell x)], ⟨?_, rfl⟩, rr, trivial⟩
  conv => lhs; whnf
  congr 2
  unfold eqE
  first
   | (rw [hb]; simp; done)
   | (have : (y.desk == x.desk) = false := by simpa using hb
      rw [this]; rfl)
   | simp_all
theorem lz152 (l : List Ent) (hl : l.length ≤ 2^40) (x : Ent) : FSpec Tryz.prog 152 [.d (ents l), .fn 71 [.ptr 1000001 0]] [(1000001, ecell x)] (fun v r => v = .d (.int .i64 (ixF (fun i => eqE (l.getD i en0) x) l.length)) ∧ r = [(1000001, ecell x)]) := by
 refine spec_of hT (C := []) Tryz.func152 rfl Tryz.call152 rfl rfl rfl ?_
 conv => whnf
 refine LoopX.rule hT (C := []) (ι := Nat) (fun i => i ≤ l.length ∧ ∀ j, j < i → eqE (l.getD j en0) x = false) (fun i => mkSt [(0, .d (ents l)), (1, .fn 71 [.ptr 1000001 0]), (7, .d (.int .i64 l.length)), (8, .d (.int .i64 i))] [(1000001, ecell x)]) (fun i => l.length - i) 0 ⟨by omega, by omega⟩ (by (refine Entails.mk' [(1000001, 1000001)] rfl rfl ?_ ?_ <;> repeat' (first | exact True.intro | exact lr | exact rr | exact SV.le_int (by omega) | exact SV.le_any _ | refine And.intro ?_ ?_)); done) ?_
 rintro i ⟨p1, p2⟩
 have e1 : (i : Int).toNat = i := Int.toNat_natCast i
 conv => whnf
 repeat' (first | (refine CallX.of (lz71 (l.getD (i : Int).toNat en0) x) [(1000001, 1000001)] rfl ⟨lr, lr, trivial⟩ ⟨rr, trivial⟩ rfl rfl ?_; rintro v rout ⟨rfl, rfl⟩; refine ⟨rfl, ?_⟩; conv => whnf) | (refine br_intro ?_ ?_ <;> intro hb <;> (try simp only [brs] at hb) <;> conv => whnf) | omega | (refine And.intro ?_ ?_; ((try dsimp only); first | omega | (refine szA rfl ?_; omega) | (refine szB rfl ?_; omega) | (unfold inI64; omega) | exact rfl | (simp only [List.toList_toArray, List.length_cons, List.length_nil]; omega) | (simp only [lns] at *; omega) | decide | (unfold inI64; decide)); conv => whnf) | decide | assumption)
 · refine .ret _ ?_
   conv => whnf
   refine ⟨[(1000001, ecell x)], ⟨?_, rfl⟩, rr, trivial⟩
   conv => lhs; whnf
   congr 2
   exact (ixF_hit (by omega) p2 (by simpa using hb)).symm
 · exact ⟨i + 1, ⟨by omega, all_step p2 (by simpa using hb)⟩, by omega, (by (refine Entails.mk' [(1000001, 1000001)] rfl rfl ?_ ?_ <;> repeat' (first | exact True.intro | exact lr | exact rr | exact SV.le_int (by omega) | exact SV.le_any _ | refine And.intro ?_ ?_)); done)⟩
 · refine .ret _ ?_
   conv => whnf
   refine ⟨[(1000001, ecell x)], ⟨?_, rfl⟩, rr, trivial⟩
   conv => lhs; whnf
   congr 2
   have : i = l.length := by omega
   subst this
   exact (ixF_none p2).symm
theorem dup_ix (l : List Ent) (x : Ent) : decide (0 ≤ ixF (fun i => eqE (l.getD i en0) x) l.length) = dupE l x := by
 rw [Bool.eq_iff_iff, decide_eq_true_eq]
 show _ ↔ (l.any fun y => y.desk == x.desk && decide (y.no = x.no)) = true
 rw [List.any_eq_true]
 constructor
 · intro h
   have := ixF_bd (p := fun i => eqE (l.getD i en0) x) (n := l.length)
   exact ⟨_, getD_mem (x := en0) (by omega), this.2.2 h⟩
 · rintro ⟨y, hy, he⟩
   obtain ⟨j, hj, rfl⟩ := mem_getD (d := en0) hy
   exact lxF_pos hj he
theorem lz70 (l : List Ent) (hl : l.length ≤ 2^40) (x : Ent) : FSpec Tryz.prog 70 [.d (ents l), .fn 71 [.ptr 1000001 0]] [(1000001, ecell x)] (fun v r => v = .d (.bool (dupE l x)) ∧ r = [(1000001, ecell x)]) := by
 refine spec_of hT (C := []) Tryz.func70 rfl Tryz.call70 rfl rfl rfl ?_
 conv => whnf
 repeat' (first | (refine CallX.of (lz152 l hl x) [(1000001, 1000001)] rfl ⟨lr, lr, trivial⟩ ⟨rr, trivial⟩ rfl rfl ?_; rintro v rout ⟨rfl, rfl⟩; refine ⟨rfl, ?_⟩; conv => whnf) | (refine br_intro ?_ ?_ <;> intro hb <;> (try simp only [brs] at hb) <;> conv => whnf) | omega | (refine And.intro ?_ ?_; ((try dsimp only); first | omega | (refine szA rfl ?_; omega) | (refine szB rfl ?_; omega) | (unfold inI64; omega) | exact rfl | (simp only [List.toList_toArray, List.length_cons, List.length_nil]; omega) | (simp only [lns] at *; omega) | decide | (unfold inI64; decide)); conv => whnf) | decide | assumption)
 refine .ret _ ?_
 conv => whnf
 refine ⟨[(1000001, ecell x)], ⟨?_, rfl⟩, rr, trivial⟩
 conv => lhs; whnf
 rw [← dup_ix]
def frmE (x : Ent) : Int := if ¬ (0 ≤ x.tm ∧ x.tm ≤ 5761439) then 1 else if isKeyB x.desk = false then 5 else if ¬ (1 ≤ x.no ∧ x.no ≤ 1000000) then 1 else if ¬ (1 ≤ x.words.length ∧ x.words.length ≤ 200) then 3 else if prB x.words = false then 3 else 0
def entE (l : List Ent) (i : Nat) : Int := if frmE (l.getD i en0) ≠ 0 then frmE (l.getD i en0) else if 0 < i ∧ 0 ≤ entCmp (l.getD (i - 1) en0) (l.getD i en0) then 7 else if dupE (l.take i) (l.getD i en0) = true then 6 else 0
def entsE (l : List Ent) : Int := if 1000 < l.length then 2 else firstAt (entE l) l.length
def entK (x : Ent) : Prop := (x.desk.length ≤ 2^40 ∧ x.words.length ≤ 2^40) ∧ entR x
def entOk (l : List Ent) : Prop := l.length ≤ 2^40 ∧ ∀ x ∈ l, entK x
theorem lz69 (x : Ent) (hk : entK x) : FSpec Tryz.prog 69 [.agg ((enF x).map .d)] [] (fun v r => v = .d (.int .i64 (frmE x)) ∧ r = []) := by
 have hw := hk.1.2
 refine spec_of hT (C := []) Tryz.func69 rfl Tryz.call69 rfl rfl rfl ?_
 conv => whnf
 repeat' (first | (refine CallX.exact (s133 _) rfl rfl ?_; rotate_right; conv => whnf) | (refine CallX.exact (s21 _ hk.1.1) rfl rfl ?_; rotate_right; conv => whnf) | (refine CallX.exact (s109 _ _ _) rfl rfl ?_; rotate_right; conv => whnf) | (refine br_intro ?_ ?_ <;> intro hb <;> (try simp only [brs] at hb) <;> conv => whnf) | omega | (refine And.intro ?_ ?_; ((try dsimp only); first | omega | (refine szA rfl ?_; omega) | (refine szB rfl ?_; omega) | (unfold inI64; omega) | exact rfl | (simp only [List.toList_toArray, List.length_cons, List.length_nil]; omega) | (simp only [lns] at *; omega) | decide | (unfold inI64; decide)); conv => whnf) | decide | assumption)
 iterate 4
  · refine .ret _ ?_
    conv => whnf
    refine ⟨[], ⟨?_, rfl⟩, trivial⟩
    conv => lhs; whnf
    congr 2
    unfold frmE
    grind
 have hf : frmE x = if prB x.words = false then 3 else 0 := by unfold frmE; grind
 rw [hf]
 refine LoopX.rule hT (C := []) (ι := Nat) (fun i => i ≤ x.words.length ∧ ∀ j, j < i → 32 ≤ (x.words.getD j 0).toNat ∧ (x.words.getD j 0).toNat ≤ 126) (fun i => mkSt [(1, .ptr 1 0), (27, .d (.int .i64 x.words.length)), (28, .d (.int .i64 i))] [(1, ecell x)]) (fun i => x.words.length - i) 0 ⟨by omega, by omega⟩ (by (refine Entails.mk' [(1, 1)] rfl rfl ?_ ?_ <;> repeat' (first | exact True.intro | exact lr | exact rr | exact SV.le_int (by omega) | exact SV.le_any _ | refine And.intro ?_ ?_)); done) ?_
 rintro i ⟨p1, p2⟩
 have e1 : (i : Int).toNat = i := Int.toNat_natCast i
 have hby : (x.words.getD (i : Int).toNat 0).toNat < 256 := UInt8.toNat_lt _
 have hby2 : (x.words.getD i 0).toNat < 256 := UInt8.toNat_lt _
 conv => whnf
 repeat' (first | (refine CallX.exact (s109 _ _ _) rfl rfl ?_; rotate_right; conv => whnf) | (refine br_intro ?_ ?_ <;> intro hb <;> (try simp only [brs] at hb) <;> conv => whnf) | omega | (refine And.intro ?_ ?_; ((try dsimp only); first | omega | (refine szA rfl ?_; omega) | (refine szB rfl ?_; omega) | (unfold inI64; omega) | exact rfl | (simp only [List.toList_toArray, List.length_cons, List.length_nil]; omega) | (simp only [lns] at *; omega) | decide | (unfold inI64; decide)); conv => whnf) | decide | assumption)
 · refine .ret _ ?_
   conv => whnf
   refine ⟨[], ⟨?_, rfl⟩, trivial⟩
   conv => lhs; whnf
   congr 2
   rw [prB_bad (i := i) (by omega) (by omega)]; rfl
 · exact ⟨i + 1, ⟨by omega, all_step p2 (by omega)⟩, by omega, (by (refine Entails.mk' [(1, 1)] rfl rfl ?_ ?_ <;> repeat' (first | exact True.intro | exact lr | exact rr | exact SV.le_int (by omega) | exact SV.le_any _ | refine And.intro ?_ ?_)); done)⟩
 · refine .ret _ ?_
   conv => whnf
   refine ⟨[], ⟨?_, rfl⟩, trivial⟩
   conv => lhs; whnf
   congr 2
   have : i = x.words.length := by omega
   subst this
   rw [prB_iff.2 p2]; rfl
theorem le_takeE {l : List Ent} {i : Nat} (h : i ≤ l.length) : SV.le (.d (.ro 4 i fun j => rowF enF en0 l (0 + j))) (.d (ents (l.take i))) :=
 SV.le_ro (by rw [List.length_take]; omega) (fun j hj => by
  simp only [Nat.zero_add, rowF]
  rw [List.getD_eq_getElem?_getD, List.getD_eq_getElem?_getD, List.getElem?_take_of_lt hj])
theorem entE_hit {l : List Ent} {i : Nat} {e : Int} (h0 : ¬ 1000 < l.length) (h : i < l.length) (p : ∀ j, j < i → entE l j = 0) (h1 : e ≠ 0) (h2 : entE l i = e) : entsE l = e := by
 unfold entsE; rw [if_neg h0]
 exact firstAt_eq h p h1 h2
theorem lz12 (l : List Ent) (hk : entOk l) : FSpec Tryz.prog 12 [.d (ents l)] [] (fun x r => x = .d (.int .i64 (entsE l)) ∧ r = []) := by
 refine spec_of hT (C := []) Tryz.func12 rfl Tryz.call12 rfl rfl rfl ?_
 conv => whnf
 refine br_intro (fun h0 => ?_) (fun h0 => ?_)
 · simp at h0
   conv => whnf
   refine .ret _ ?_
   conv => whnf
   refine ⟨[], ⟨?_, rfl⟩, trivial⟩
   conv => lhs; whnf
   unfold entsE; rw [if_pos (by omega)]
 simp at h0
 conv => whnf
 refine LoopX.rule hT (C := []) (ι := Nat) (fun i => i ≤ l.length ∧ ∀ j, j < i → entE l j = 0) (fun i => mkSt [(0, .d (ents l)), (9, .d (ents l)), (10, .d (.int .i64 l.length)), (11, .d (.int .i64 i))] []) (fun i => l.length - i) 0 ⟨by omega, by omega⟩ (by (refine Entails.mk' [] rfl rfl ?_ ?_ <;> repeat' (first | exact True.intro | exact lr | exact rr | exact SV.le_int (by omega) | exact SV.le_any _ | refine And.intro ?_ ?_)); done) ?_
 rintro i ⟨p1, p2⟩
 have e1 : (i : Int).toNat = i := Int.toNat_natCast i
 have hx : ∀ i, i < l.length → entK (l.getD i en0) := fun i hi => hk.2 _ (getD_mem hi)
 have hK : entK (l.getD (i : Int).toNat en0) := by
  rw [e1]
  rcases Nat.lt_or_ge i l.length with q | q
  · exact hx i q
  · rw [List.getD_eq_getElem?_getD, List.getElem?_eq_none q]; simp [entK, entR, en0]
 have hK2 : entK (l.getD ((i : Int) - 1).toNat en0) := by
  rcases Nat.lt_or_ge ((i : Int) - 1).toNat l.length with q | q
  · exact hx _ q
  · rw [List.getD_eq_getElem?_getD, List.getElem?_eq_none q]; simp [entK, entR, en0]
 have hD := lz70 (l.take (i : Int).toNat) (by rw [List.length_take]; have := hk.1; omega) (l.getD (i : Int).toNat en0)
 conv => whnf
 repeat' (first | (refine CallX.exact (lz69 _ hK) rfl rfl ?_; rotate_right; conv => whnf) | (refine CallX.exact (lz63 (l.getD ((i : Int) - 1).toNat en0) (l.getD (i : Int).toNat en0) hK2.2 hK.2) rfl rfl ?_; rotate_right; conv => whnf) | (refine CallX.of hD [(1000001, 4)] rfl ⟨le_takeE (by omega), lr, trivial⟩ ⟨rr, trivial⟩ rfl rfl ?_; rintro v rout ⟨rfl, rfl⟩; refine ⟨rfl, ?_⟩; conv => whnf) | (refine br_intro ?_ ?_ <;> intro hb <;> (try simp only [brs] at hb) <;> conv => whnf) | (refine RegX.rule (id := 9) hT rfl [] oXEnC12_9 (by decide +kernel) ?_; conv => whnf) | omega | (refine And.intro ?_ ?_; ((try dsimp only); first | omega | (refine szA rfl ?_; omega) | (refine szB rfl ?_; omega) | (unfold inI64; omega) | exact rfl | (simp only [List.toList_toArray, List.length_cons, List.length_nil]; omega) | (simp only [lns] at *; omega) | decide | (unfold inI64; decide)); conv => whnf) | decide | assumption)
 all_goals clear hD hK hK2 hx
 all_goals first
  | (refine ⟨i + 1, ⟨by omega, first_step p2 (by clear p2 hk; simp only [e1, toNat_pred] at *; unfold entE; grind)⟩, by omega, (by (refine Entails.mk' [] rfl rfl ?_ ?_ <;> repeat' (first | exact True.intro | exact lr | exact rr | exact SV.le_int (by omega) | exact SV.le_any _ | refine And.intro ?_ ?_)); done)⟩)
  | (refine .ret _ ?_
     conv => whnf
     refine ⟨[], ⟨?_, rfl⟩, trivial⟩
     conv => lhs; whnf
     congr 2
     first
      | exact (entE_hit (by omega) (by omega) p2 hb (by clear p2 hk; simp only [e1, toNat_pred] at *; unfold entE; grind)).symm
      | exact (entE_hit (by omega) (by omega) p2 (by decide) (by clear p2 hk; simp only [e1, toNat_pred] at *; unfold entE; grind)).symm
      | (have : i = l.length := by omega
         subst this
         unfold entsE; rw [if_neg (by omega), firstAt_zero p2]))
def oXEnD64_16 : List (Nat × List Nat) := [(0, []), (1, []), (2, []), (3, []), (4, [3]), (5, [3]), (6, []), (7, []), (8, [3, 4, 5, 6, 7]), (9, []), (10, []), (11, []), (12, [])]
theorem wk_si {key : List DV} (h : wk [.str, .int .i64] key = true) : ∃ a b, key = [.str a, .int .i64 b] := by
 match key, h with
 | [.str a, .int k d], h =>
   have : IntKind.i64 = k := kEq_eq (by simpa [wk, wk1] using h)
   subst this
   exact ⟨a, d, rfl⟩
 | .str _ :: .int _ _ :: _ :: _, h => simp [wk] at h
theorem enR_up {l : List Ent} {i : Nat} {x : Ent} (hi : i < l.length) (hx : x = l.getD i en0) :
 Res.le (.map true false [.str, .int .i64] [.bool false] (fun q => keyEq q [.str x.desk, .int .i64 x.no] || enHas (l.take i) q) (fun q => bif keyEq q [.str x.desk, .int .i64 x.no] then [.bool true] else [.bool (enHas (l.take i) q)])) (enR (l.take (i + 1))) := Res.le_map fun K hK => by
 obtain ⟨a, b, rfl⟩ := wk_si hK
 have e : l.take (i + 1) = l.take i ++ [x] := by
  rw [hx, List.take_add_one]; simp [List.getD_eq_getElem?_getD, hi]
 have h1 : enHas (l.take (i + 1)) [.str a, .int .i64 b] = (enHas (l.take i) [.str a, .int .i64 b] || (x.desk == a && decide (x.no = b))) := by
  show (l.take (i + 1)).any _ = _
  rw [e, List.any_append]
  simp [enHas]
 have h2 : keyEq [.str a, .int .i64 b] [.str x.desk, .int .i64 x.no] = (x.desk == a && decide (x.no = b)) := by
  rw [Bool.eq_iff_iff]; simp [keyEq, keyEq1]; grind
 rw [h1, h2]
 cases hq : (x.desk == a && decide (x.no = b)) <;> simp
theorem lz64 (l : List Ent) (hk : entOk l) : FSpec Tryz.prog 64 [.d (ents l)] [] (fun x r => x = .d (.int .i64 (entsE l)) ∧ r = []) := by
 refine spec_of hT (C := []) Tryz.func64 rfl Tryz.call64 rfl rfl rfl ?_
 conv => whnf
 refine br_intro (fun h0 => ?_) (fun h0 => ?_)
 · simp at h0
   conv => whnf
   refine .ret _ ?_
   conv => whnf
   refine ⟨[], ⟨?_, rfl⟩, trivial⟩
   conv => lhs; whnf
   unfold entsE; rw [if_pos (by omega)]
 simp at h0
 conv => whnf
 refine LoopX.rule hT (C := []) (ι := Nat) (fun i => i ≤ l.length ∧ ∀ j, j < i → entE l j = 0) (fun i => mkSt [(0, .d (ents l)), (3, .mp 3), (11, .d (ents l)), (12, .d (.int .i64 l.length)), (13, .d (.int .i64 i))] [(3, enR (l.take i))]) (fun i => l.length - i) 0 ⟨by omega, by omega⟩ ?_ ?_
 · refine Entails.mk' [(3, 10)] rfl rfl ⟨lr, lr, lr, lr, lr, trivial⟩ ⟨Res.le_map (fun key hk => ?_), trivial⟩
   obtain ⟨a, b, rfl⟩ := wk_si hk
   exact ⟨rfl, rfl⟩
 rintro i ⟨p1, p2⟩
 have e1 : (i : Int).toNat = i := Int.toNat_natCast i
 have hx : ∀ i, i < l.length → entK (l.getD i en0) := fun i hi => hk.2 _ (getD_mem hi)
 have hK : entK (l.getD (i : Int).toNat en0) := by
  rw [e1]
  rcases Nat.lt_or_ge i l.length with q | q
  · exact hx i q
  · rw [List.getD_eq_getElem?_getD, List.getElem?_eq_none q]; simp [entK, entR, en0]
 conv => whnf
 repeat' (first | (refine CallX.exact (s154 _) rfl rfl ?_; rotate_right; conv => whnf) | (refine CallX.exact (s108 _ hK.1.1) rfl rfl ?_; rotate_right; conv => whnf) | (refine CallX.exact (s119 _ _ _) rfl rfl ?_; rotate_right; conv => whnf) | (refine CallX.exact (lz149 _ hK.1.2) rfl rfl ?_; rotate_right; conv => whnf) | (refine CallX.exact (lz150 (l.getD ((i : Int) - 1).toNat en0) (l.getD (i : Int).toNat en0)) rfl rfl ?_; rotate_right; conv => whnf) | (refine And.intro (rfl : zrow _ = some [DV.bool false]) ?_; conv => whnf) | (simp only [Nat.beq_refl, cond_true]; conv => whnf) | (refine br_intro ?_ ?_ <;> intro hb <;> (try simp only [brs] at hb) <;> conv => whnf) | (refine RegX.rule (id := 16) hT rfl [] oXEnD64_16 (by decide +kernel) ?_; conv => whnf) | omega | (refine And.intro ?_ ?_; ((try dsimp only); first | omega | (refine szA rfl ?_; omega) | (refine szB rfl ?_; omega) | (unfold inI64; omega) | exact rfl | (simp only [List.toList_toArray, List.length_cons, List.length_nil]; omega) | (simp only [lns] at *; omega) | decide | (unfold inI64; decide)); conv => whnf) | decide | assumption)
 all_goals have hwl : (l.getD i en0).words = [] ↔ (l.getD i en0).words.length = 0 := List.length_eq_zero_iff.symm
 all_goals clear hK hx
 all_goals first
  | (refine ⟨i + 1, ⟨by omega, first_step p2 (by clear p2 hk; simp only [e1, toNat_pred] at *; unfold entE frmE dupE; grind)⟩, by omega, Entails.mk' [(3, 3)] rfl rfl ⟨lr, lr, lr, lr, lr, trivial⟩ ⟨enR_up (x := l.getD (i : Int).toNat en0) (by omega) (by rw [e1]), trivial⟩⟩)
  | (refine .ret _ ?_
     conv => whnf
     refine ⟨[], ⟨?_, rfl⟩, trivial⟩
     conv => lhs; whnf
     congr 2
     first
      | exact (entE_hit (by omega) (by omega) p2 (by decide) (by clear p2 hk; simp only [e1, toNat_pred] at *; unfold entE frmE dupE; grind)).symm
      | (have : i = l.length := by omega
         subst this
         unfold entsE; rw [if_neg (by omega), firstAt_zero p2]))
set_option maxHeartbeats 4000000 in
theorem lz59 (n : Nat) (L : Nat → Int) (hL : Rok n L) (a : Int) (h0 : 0 ≤ a) (ha : a ≤ 2^37) (at' : Int) (hq1 : -2^40 ≤ at') (hq2 : at' ≤ 2^40) :
 FSpec Tryz.prog 59 [.ptr 1000000 0, .d (.int .i64 at')] [(1000000, strm n L a), (1000009, KX)] (fun y r => (∃ t : List UInt8, t.length ≤ 2^10 ∧ y = .d (.str t)) ∧ MovedK n L a 20 r) := by
 have hI : ∀ k : Int, -2^60 ≤ k → k ≤ 2^60 → (Lib.itoa k).length ≤ 20 := fun k h1 h2 => itoa_len h1 h2
 refine spec_of hT (C := []) Tryz.func59 rfl Tryz.call59 rfl rfl rfl ?_
 conv => whnf
 repeat' (first | (refine CallX.of (s15 n L hL _ ?_ ?_ [[118, 49], [118, 49], [118, 50], [118, 51], [110, 111, 110, 101]] (by simp) (by simp)) [(1000000, 1000000)] rfl ⟨lr, SV.le_lit rfl rfl, trivial⟩ ⟨rr, trivial⟩ rfl rfl ?_; rotate_right; rintro x rout ⟨⟨u0, hu0, rfl⟩, ⟨c, c1, c2, rfl⟩⟩; have hw0 := mem_len hu0 rfl; refine ⟨rfl, ?_⟩; conv => whnf) | (refine CallX.of (s15 n L hL _ ?_ ?_ [[115, 49], [115, 49], [115, 49], [115, 50], [115, 57]] (by simp) (by simp)) [(1000000, 1000000)] rfl ⟨lr, SV.le_lit rfl rfl, trivial⟩ ⟨rr, trivial⟩ rfl rfl ?_; rotate_right; rintro x rout ⟨⟨u1, hu1, rfl⟩, ⟨c, c1, c2, rfl⟩⟩; have hw1 := mem_len hu1 rfl; refine ⟨rfl, ?_⟩; conv => whnf) | (refine CallX.of (s15 n L hL _ ?_ ?_ [[104, 49], [104, 49], [104, 50], [104, 51], [65]] (by simp) (by simp)) [(1000000, 1000000)] rfl ⟨lr, SV.le_lit rfl rfl, trivial⟩ ⟨rr, trivial⟩ rfl rfl ?_; rotate_right; rintro x rout ⟨⟨u2, hu2, rfl⟩, ⟨c, c1, c2, rfl⟩⟩; have hw2 := mem_len hu2 rfl; refine ⟨rfl, ?_⟩; conv => whnf) | (refine CallX.of (s15 n L hL _ ?_ ?_ [[115, 104, 111, 112], [100, 111, 110, 101], [99, 111, 109, 101], [103, 111, 110, 101]] (by simp) (by simp)) [(1000000, 1000000)] rfl ⟨lr, SV.le_lit rfl rfl, trivial⟩ ⟨rr, trivial⟩ rfl rfl ?_; rotate_right; rintro x rout ⟨⟨u3, hu3, rfl⟩, ⟨c, c1, c2, rfl⟩⟩; have hw3 := mem_len hu3 rfl; refine ⟨rfl, ?_⟩; conv => whnf) | (refine CallX.of (s15 n L hL _ ?_ ?_ [[115, 50], [115, 49], [115, 57]] (by simp) (by simp)) [(1000000, 1000000)] rfl ⟨lr, SV.le_lit rfl rfl, trivial⟩ ⟨rr, trivial⟩ rfl rfl ?_; rotate_right; rintro x rout ⟨⟨u4, hu4, rfl⟩, ⟨c, c1, c2, rfl⟩⟩; have hw4 := mem_len hu4 rfl; refine ⟨rfl, ?_⟩; conv => whnf) | (refine CallX.of (s15 n L hL _ ?_ ?_ [[109, 105, 110, 105], [109, 105, 100, 105], [110, 111, 110, 101]] (by simp) (by simp)) [(1000000, 1000000)] rfl ⟨lr, SV.le_lit rfl rfl, trivial⟩ ⟨rr, trivial⟩ rfl rfl ?_; rotate_right; rintro x rout ⟨⟨u5, hu5, rfl⟩, ⟨c, c1, c2, rfl⟩⟩; have hw5 := mem_len hu5 rfl; refine ⟨rfl, ?_⟩; conv => whnf) | (refine CallX.of (s15 n L hL _ ?_ ?_ [[53, 48], [49, 48, 48], [49, 48, 49]] (by simp) (by simp)) [(1000000, 1000000)] rfl ⟨lr, SV.le_lit rfl rfl, trivial⟩ ⟨rr, trivial⟩ rfl rfl ?_; rotate_right; rintro x rout ⟨⟨u6, hu6, rfl⟩, ⟨c, c1, c2, rfl⟩⟩; have hw6 := mem_len hu6 rfl; refine ⟨rfl, ?_⟩; conv => whnf) | (refine CallX.of (s15 n L hL _ ?_ ?_ [[48], [49, 48, 48], [57, 57, 57, 57, 57, 48]] (by simp) (by simp)) [(1000000, 1000000)] rfl ⟨lr, SV.le_lit rfl rfl, trivial⟩ ⟨rr, trivial⟩ rfl rfl ?_; rotate_right; rintro x rout ⟨⟨u7, hu7, rfl⟩, ⟨c, c1, c2, rfl⟩⟩; have hw7 := mem_len hu7 rfl; refine ⟨rfl, ?_⟩; conv => whnf) | (refine CallX.of (s15 n L hL _ ?_ ?_ [[56], [52], [57]] (by simp) (by simp)) [(1000000, 1000000)] rfl ⟨lr, SV.le_lit rfl rfl, trivial⟩ ⟨rr, trivial⟩ rfl rfl ?_; rotate_right; rintro x rout ⟨⟨u8, hu8, rfl⟩, ⟨c, c1, c2, rfl⟩⟩; have hw8 := mem_len hu8 rfl; refine ⟨rfl, ?_⟩; conv => whnf) | (refine CallX.of (s15 n L hL _ ?_ ?_ [[53], [51, 48, 48], [52, 48, 48]] (by simp) (by simp)) [(1000000, 1000000)] rfl ⟨lr, SV.le_lit rfl rfl, trivial⟩ ⟨rr, trivial⟩ rfl rfl ?_; rotate_right; rintro x rout ⟨⟨u9, hu9, rfl⟩, ⟨c, c1, c2, rfl⟩⟩; have hw9 := mem_len hu9 rfl; refine ⟨rfl, ?_⟩; conv => whnf) | (refine CallX.of (s15 n L hL _ ?_ ?_ [[56], [50]] (by simp) (by simp)) [(1000000, 1000000)] rfl ⟨lr, SV.le_lit rfl rfl, trivial⟩ ⟨rr, trivial⟩ rfl rfl ?_; rotate_right; rintro x rout ⟨⟨u10, hu10, rfl⟩, ⟨c, c1, c2, rfl⟩⟩; have hw10 := mem_len hu10 rfl; refine ⟨rfl, ?_⟩; conv => whnf) | (refine CallX.of (s33 n L hL _ ?_ ?_ [10, 60, 1440, 2000, -5] (by simp) (by simp)) [(1000000, 1000000)] rfl ⟨lr, SV.le_lit rfl rfl, trivial⟩ ⟨rr, trivial⟩ rfl rfl ?_; rotate_right; rintro x rout ⟨⟨n1, hn1, rfl⟩, ⟨c, c1, c2, rfl⟩⟩; have hm1 := mem_bd hn1 rfl; have hm1a := hm1.1; have hm1b := hm1.2; refine ⟨rfl, ?_⟩; conv => whnf) | (refine CallX.of (s33 n L hL _ ?_ ?_ [0, 10, 100] (by simp) (by simp)) [(1000000, 1000000)] rfl ⟨lr, SV.le_lit rfl rfl, trivial⟩ ⟨rr, trivial⟩ rfl rfl ?_; rotate_right; rintro x rout ⟨⟨n2, hn2, rfl⟩, ⟨c, c1, c2, rfl⟩⟩; have hm2 := mem_bd hn2 rfl; have hm2a := hm2.1; have hm2b := hm2.2; refine ⟨rfl, ?_⟩; conv => whnf) | (refine CallX.of (s86 n L hL _ ?_ ?_ _ ?_) [(1000000, 1000000)] rfl ⟨lr, lr, trivial⟩ ⟨rr, trivial⟩ rfl rfl ?_; rotate_right; rintro x rout ⟨⟨j, hj1, hj2, hj3, rfl⟩, ⟨c, c1, c2, rfl⟩⟩; refine ⟨rfl, ?_⟩; conv => whnf) | (refine CallX.kn (zItoa _ (by omega) (by omega)) rfl rfl rfl rfl ?_; conv => whnf) | (refine CallX.of (s15 n L hL _ (by omega) (by omega) [_, _, _, _, _, _, _, _] (by simp) (by simp)) [(1000000, 1000000)] rfl ⟨lr, SV.le_lit rfl rfl, trivial⟩ ⟨rr, trivial⟩ rfl rfl ?_; rintro x rout ⟨⟨z, hz, rfl⟩, ⟨c9, c91, c92, rfl⟩⟩; refine ⟨rfl, ?_⟩; conv => whnf) | (refine And.intro (by simp only [List.length_append, List.toList_toArray, List.length_cons, List.length_nil]; have i1 := hI (at' + n1) (by omega) (by omega); first | omega | (have i2 := hI (at' + n2) (by omega) (by omega); omega)) ?_; conv => whnf) | (refine br_intro ?_ ?_ <;> intro hb <;> (try simp only [brs] at hb) <;> conv => whnf) | omega | (refine And.intro ?_ ?_; ((try dsimp only); first | omega | (refine szA rfl ?_; omega) | (refine szB rfl ?_; omega) | (unfold inI64; omega) | exact rfl | (simp only [List.toList_toArray, List.length_cons, List.length_nil]; omega) | (simp only [lns] at *; omega) | decide | (unfold inI64; decide)); conv => whnf) | decide | assumption)
 all_goals refine .ret _ ?_
 all_goals conv => whnf
 all_goals refine ⟨[(1000000, strm n L _), (1000009, KX)], ⟨⟨_, ?_, rfl⟩, ⟨_, ?_, ?_, rfl⟩⟩, rr, rr, trivial⟩
 all_goals first
  | omega
  | (have i1 := hI (at' + n1) (by omega) (by omega)
     first
      | (simp only [List.length_append, List.toList_toArray, List.length_cons, List.length_nil]
         first
          | omega
          | (have i2 := hI (at' + n2) (by omega) (by omega); omega))
      | (simp only [List.mem_cons, List.not_mem_nil, or_false] at hz
         rcases hz with rfl | rfl | rfl | rfl | rfl | rfl | rfl | rfl <;> simp only [List.length_append, List.toList_toArray, List.length_cons, List.length_nil] <;> omega))
def mvN (n : List Ned) (r : List Roa) (a : Nat) (v : Int) : Mov := ⟨(n.getD ((arL n r).getD a a30).fr nd0).st, (n.getD ((arL n r).getD a a30).to nd0).st, v⟩
def nwA (N : Nat) (A : List Arc) : Nw := ⟨A.length, N, fun k => (A.getD k ar0).fr.toNat, fun k => (A.getD k ar0).to.toNat, fun k => (A.getD k ar0).car⟩
def floA (A : List Arc) (k : Nat) : Int := (A.getD k ar0).flow
structure ArOk (N : Nat) (A : List Arc) : Prop where
 len : A.length ≤ 1000
 fr : ∀ k, k < A.length → 0 ≤ (A.getD k ar0).fr ∧ (A.getD k ar0).fr < N
 to : ∀ k, k < A.length → 0 ≤ (A.getD k ar0).to ∧ (A.getD k ar0).to < N
 car : ∀ k, k < A.length → 0 ≤ (A.getD k ar0).car ∧ (A.getD k ar0).car ≤ 1000000
def getI (D : List Int) (v : Nat) : Int := D.getD v 0
theorem RegX.ent {P : Program} {id : Nat} {ops : Array Oper} {k : St → Prop} {s s' : St} (he : Entails s s') (h : RegX P id ops k s') : RegX P id ops k s := ⟨fun A a w hN hm => h.wp A a w hN (he.imp A a w hm)⟩
structure HoldR (p : Prop) : Prop where
 h : p
theorem HoldR.mk' {P : Program} {id : Nat} {ops : Array Oper} {k : St → Prop} {s : St} (h : HoldR (RegX P id ops k s)) : RegX P id ops k s := h.h
structure Sm (A B : List Arc) : Prop where
 len : B.length = A.length
 fld : ∀ k, (B.getD k ar0).fr = (A.getD k ar0).fr ∧ (B.getD k ar0).to = (A.getD k ar0).to ∧ (B.getD k ar0).car = (A.getD k ar0).car
theorem Sm.refl (A : List Arc) : Sm A A := ⟨rfl, fun _ => ⟨rfl, rfl, rfl⟩⟩
theorem Sm.ok {A B : List Arc} (h : Sm A B) {N : Nat} (ha : ArOk N A) : ArOk N B :=
 ⟨by rw [h.len]; exact ha.len, fun k hk => by rw [(h.fld k).1]; exact ha.fr k (by rw [← h.len]; exact hk), fun k hk => by rw [(h.fld k).2.1]; exact ha.to k (by rw [← h.len]; exact hk), fun k hk => by rw [(h.fld k).2.2]; exact ha.car k (by rw [← h.len]; exact hk)⟩
structure SvI (N : Nat) (h w : List Int) (A : List Arc) (L K : List Int) (B : List Arc) (p : Nat → Int) (s : Int) : Prop where
 sm : Sm A B
 ll : L.length = N
 lk : K.length = N
 st : (nwA N A).St (getI h) (getI w) (floA B) (getI L) (getI K)
 pt : (nwA N A).Pot (getI h) (floA B) (getI L) p
 cs : s = (nwA N A).cost (floA B)
 sb : 0 ≤ s ∧ s ≤ 1000000000 * (su (getI w) N - su (getI K) N)
 fb : ∀ k, k < A.length → 0 ≤ floA B k ∧ floA B k ≤ 1000 * (su (getI w) N - su (getI K) N)
structure AugB (A : List Arc) (B C : List Arc) (m : Int) (n0 n : Nat) : Prop where
 le : n ≤ n0
 fb : ∀ k, k < A.length → floA C k + m * (n : Int) ≤ floA B k + m * (n0 : Int)
def havF (n : List Ned) (i : Nat) : Int := max (manyP n i) 0
def wntF (n : List Ned) (i : Nat) : Int := max (0 - manyP n i) 0
def havL (n : List Ned) : List Int := fillA 0 (havF n) n.length n.length
def wntL (n : List Ned) : List Int := fillA 0 (wntF n) n.length n.length
def arcO (x : Ar3) : Arc := ⟨x.fr, x.to, x.car, 0⟩
def arcs (n : List Ned) (r : List Roa) : List Arc := (arL n r).map arcO
def vapp : List Int → (Nat → Int) → Nat → Int
 | [], y => y
 | u :: us, y => vcons u (vapp us y)
def lsU {μ : Type} (m : Nat → Int → μ) : Nat → List Int → List μ
 | _, [] => []
 | a, u :: us => (if 0 < u then [m a u] else []) ++ lsU m (a + 1) us
theorem lsV_vapp {μ : Type} (m : Nat → Int → μ) (y : Nat → Int) : ∀ (us : List Int) (a : Nat), lsV m us.length a (vapp us y) = lsU m a us
 | [], _ => rfl
 | u :: us, a => by
   show (if 0 < u then [m a u] else []) ++ lsV m us.length (a + 1) (vtl (vcons u (vapp us y))) = _
   rw [vtl_cons, lsV_vapp m y us (a + 1)]; rfl
theorem arcs_get (n : List Ned) (r : List Roa) (k : Nat) : (arcs n r).getD k ar0 = arcO ((arL n r).getD k a30) := by
 unfold arcs
 rw [List.getD_eq_getElem?_getD, List.getD_eq_getElem?_getD, List.getElem?_map]
 cases (arL n r)[k]? <;> rfl
theorem ArOk.drop {N : Nat} {A : List Arc} (h : ArOk N A) (a : Nat) : ArOk N (A.drop a) := by
 have e : ∀ k, (A.drop a).getD k ar0 = A.getD (a + k) ar0 := fun k => by rw [List.getD_eq_getElem?_getD, List.getD_eq_getElem?_getD, List.getElem?_drop]
 have hl : (A.drop a).length = A.length - a := List.length_drop
 exact ⟨by have := h.len; omega, fun k hk => by rw [e]; exact h.fr _ (by omega), fun k hk => by rw [e]; exact h.to _ (by omega), fun k hk => by rw [e]; exact h.car _ (by omega)⟩
theorem Sm.drop {A B : List Arc} (h : Sm A B) (a : Nat) : Sm (A.drop a) (B.drop a) := by
 refine ⟨by rw [List.length_drop, List.length_drop, h.len], fun k => ?_⟩
 rw [List.getD_eq_getElem?_getD, List.getD_eq_getElem?_getD, List.getElem?_drop, List.getElem?_drop, ← List.getD_eq_getElem?_getD, ← List.getD_eq_getElem?_getD]
 exact h.fld _
theorem Sm.trans {A B C : List Arc} (h : Sm A B) (k : Sm B C) : Sm A C := ⟨k.len.trans h.len, fun i => ⟨(k.fld i).1.trans (h.fld i).1, (k.fld i).2.1.trans (h.fld i).2.1, (k.fld i).2.2.trans (h.fld i).2.2⟩⟩
structure PlnI (n : List Ned) (r : List Roa) (a : Nat) (us hl wl : List Int) (C : List Arc) (c : Int) : Prop where
 len : us.length = a
 aK : a ≤ (arcs n r).length
 sm : Sm ((arcs n r).drop a) C
 l1 : hl.length = n.length
 l2 : wl.length = n.length
 hb : ∀ v, v < n.length → 0 ≤ getI hl v ∧ getI hl v ≤ 20
 wb : ∀ v, v < n.length → 0 ≤ getI wl v ∧ getI wl v ≤ 20
 hz : ∀ v, v < n.length → kindB n v = false → getI hl v = 0
 wz : ∀ v, v < n.length → kindB n v = true → getI wl v = 0
 opt : ((nwG n r).sh a).IsOpt (kindB n) (getI hl) (getI wl) c
 cb : 0 ≤ c ∧ c ≤ 1000000000000000
 best : ∀ y, ((nwG n r).sh a).Best (kindB n) (getI hl) (getI wl) c y → ∃ c0, (nwG n r).Best (kindB n) (getI (havL n)) (getI (wntL n)) c0 (vapp us y)
theorem PlnI.first {n : List Ned} {r : List Roa} {a : Nat} {us hl wl : List Int} {C : List Arc} {c : Int} (h : PlnI n r a us hl wl C c) (ha : a < (arcs n r).length) (hn : ndsE n = 0) (hr : rdsE r = 0) :
 (C.getD 0 ar0).fr = ((nwG n r).fr a : Nat) ∧ (C.getD 0 ar0).to = ((nwG n r).to a : Nat) ∧ (C.getD 0 ar0).car = (nwG n r).c a ∧ (nwG n r).fr a < n.length ∧ (nwG n r).to a < n.length ∧ 0 ≤ (nwG n r).c a ∧ (nwG n r).c a ≤ 1000000 := by
 have h1 := h.sm.fld 0
 rw [List.getD_eq_getElem?_getD (l := (arcs n r).drop a), List.getElem?_drop, ← List.getD_eq_getElem?_getD, Nat.add_zero, arcs_get] at h1
 have hlen : (arcs n r).length = (arL n r).length := List.length_map _
 have hm := arL_mem (nwG_at (k := a) (by show a < (arL n r).length; omega))
 have hk := nwG_ok (n := n) hr
 exact ⟨h1.1, h1.2.1, h1.2.2, hm.1.1, hm.2.1.1, hk.1.c0 a (by show a < (arL n r).length; omega), hk.2 a (by show a < (arL n r).length; omega)⟩
theorem PlnI.done {n : List Ned} {r : List Roa} {us hl wl : List Int} {C : List Arc} {c : Int} (h : PlnI n r (arcs n r).length us hl wl C c) : ∃ c0 x, (nwG n r).Best (kindB n) (getI (havL n)) (getI (wntL n)) c0 x ∧ lsU (mvN n r) 0 us = lsV (mvN n r) (nwG n r).K 0 x := by
 have hK : (arcs n r).length = (nwG n r).K := List.length_map _
 obtain ⟨c0, hc⟩ := h.best (fun _ => 0) (by rw [hK]; exact Nw.best_end (by have := h.opt; rw [hK] at this; exact this) _)
 refine ⟨c0, _, hc, ?_⟩
 rw [← lsV_vapp (mvN n r) (fun _ => 0) us 0, h.len, hK]
theorem Entails.freeze {s : St} (d e kk n : Nat) (g : Nat → List DV) (hd : s.res d = some (.buf e kk n g)) : Entails s (s.app ⟨none, .any, [(d, some (.fro kk n g))], []⟩) := ⟨fun A a w => by
 rintro ⟨h0, G, β, hm⟩
 obtain ⟨G', _, hm'⟩ := hm.freeze hd
 exact ⟨h0, G', β, hm'⟩⟩
theorem wk_str {K : List DV} (h : wk [.str] K = true) : ∃ s, K = [.str s] := by
 cases K with
 | nil => simp [wk] at h
 | cons x r =>
   cases r with
   | cons y r => simp [wk] at h
   | nil => cases x <;> simp [wk, wk1] at h; exact ⟨_, rfl⟩
def oXEnF9_9 : List (Nat × List Nat) := [(0, []), (1, [0]), (2, [0, 1]), (3, [0, 1, 2]), (4, [0, 1]), (5, [0, 1, 2, 3, 4]), (6, [0, 1, 2, 3, 4, 5]), (9, [0, 1, 2, 3, 4, 5, 6]), (7, [0, 1, 2, 3, 4, 9]), (8, [9]), (10, [])]
def keyE : List DV → List UInt8
 | [.str s] => s
 | _ => []
abbrev mpE (g : List UInt8 → Int) : Res := .map false false [.str] [.int .i64 0] (fun K => decide (0 < g (keyE K))) (fun K => [.int .i64 (g (keyE K))])
def upE (g : List UInt8 → Int) (x : List UInt8) : List UInt8 → Int := fun s => if s = x then g x + 1 else g s
theorem mpE_up {g : List UInt8 → Int} {x : List UInt8} (h0 : ∀ k, 0 ≤ g k) :
 Res.le (.map false false [.str] [.int .i64 0] (fun q => keyEq q [.str x] || decide (0 < g (keyE q))) (fun q => bif keyEq q [.str x] then [.int .i64 (g x + 1)] else [.int .i64 (g (keyE q))])) (mpE (upE g x)) := Res.le_map fun K hK => by
 obtain ⟨s, rfl⟩ := wk_str hK
 have e : keyEq [.str s] [.str x] = decide (s = x) := by
  rw [Bool.eq_iff_iff]; simp [keyEq, keyEq1]
 rw [e]
 show (decide (s = x) || decide (0 < g s)) = decide (0 < upE g x s) ∧ (bif decide (s = x) then [DV.int .i64 (g x + 1)] else [.int .i64 (g s)]) = [.int .i64 (upE g x s)]
 unfold upE
 by_cases q : s = x
 · subst q
   have := h0 s
   simp; omega
 · simp [q]
theorem keyEq_one (x : List UInt8) : keyEq [.str x] [.str x] = true := by simp [keyEq, keyEq1]
def entG (x : Ent) : Prop := (x.desk.length ≤ 8 ∧ x.words.length ≤ 2^10) ∧ entR x
theorem pickE {u : Int} (h : u ∈ ([0, 1, 5, 10, 100, 500] : List Int)) : 0 ≤ u ∧ u ≤ 500 := by
 simp only [List.mem_cons, List.not_mem_nil, or_false] at h; omega
set_option maxHeartbeats 4000000 in
theorem lz9 (n : Nat) (L : Nat → Int) (hL : Rok n L) (a : Int) (h0 : 0 ≤ a) (ha : a ≤ 2^36) (m : Int) (hm1 : 0 ≤ m) (hm2 : m ≤ 6) :
 FSpec Tryz.prog 9 [.ptr 1000000 0, .d (.int .i64 m)] [(1000000, strm n L a), (1000009, KX)] (fun y r => (∃ l : List Ent, allK entG m.toNat l ∧ y = .d (ents l)) ∧ MovedK n L a 300 r) := by
 refine spec_of hT (C := []) Tryz.func9 rfl Tryz.call9 rfl rfl rfl ?_
 conv => whnf
 refine LoopX.rule hT (C := []) (ι := Int × List Ent × Nat × Int × (List UInt8 → Int)) (fun (b, l, k, t, g) => (a ≤ b ∧ b ≤ a + 50 * k ∧ (k : Int) ≤ m) ∧ allK entG k l ∧ (0 ≤ t ∧ t ≤ 2000 * k) ∧ (∀ s, 0 ≤ g s ∧ g s ≤ k))
  (fun (b, l, k, t, g) => mkSt [(0, .ptr 1000000 0), (5, .buf 5), (6, .d (.int .i64 t)), (7, .mp 7), (11, .d (.int .i64 m)), (12, .d (.int .i64 k))] [(1000000, strm n L b), (1000009, KX), (5, enB l), (7, mpE g)])
  (fun (_, _, k, _, _) => 12 - k) (a, [], 0, 0, fun _ => 0) ⟨⟨by simp, by simp, by simpa using hm1⟩, ⟨by simp, by simp⟩, ⟨by simp, by simp⟩, by simp⟩ ?_ ?_
 · refine (Entails.nil 5 5 39 4 (rowF enF en0 []) rfl rfl (by decide)).trans (Entails.mk' [(1000000, 1000000), (1000009, 1000009), (5, 5), (7, 10)] rfl rfl ⟨lr, lr, lr, lr, lr, lr, trivial⟩ ⟨rr, rr, rr, Res.le_map (fun key hk => ?_), trivial⟩)
   obtain ⟨s, rfl⟩ := wk_str hk
   exact ⟨rfl, rfl⟩
 rintro ⟨b, l, k, t, g⟩ ⟨⟨p1, p2, p3⟩, q1, ⟨q2, q3⟩, q4⟩
 have p1 : a ≤ b := p1
 have p2 : b ≤ a + 50 * k := p2
 have p3 : (k : Int) ≤ m := p3
 have q2 : 0 ≤ t := q2
 have q3 : t ≤ 2000 * k := q3
 have hl1 := q1.1
 conv => whnf
 repeat' (first | (refine CallX.of (s33 n L hL _ ?_ ?_ [0, 1, 5, 10, 100, 500] (by simp) (by simp)) [(1000000, 1000000)] rfl ⟨lr, SV.le_lit rfl rfl, trivial⟩ ⟨rr, trivial⟩ rfl rfl ?_; rotate_right; rintro x rout ⟨⟨u1, hu1, rfl⟩, ⟨c, c1, c2, rfl⟩⟩; have hb1 := pickE hu1; have hb2 := hb1.1; have hb3 := hb1.2; refine ⟨rfl, ?_⟩; conv => whnf) | (refine CallX.of (s15 n L hL _ ?_ ?_ [[100, 49], [100, 49], [100, 50], [100, 51]] (by simp) (by simp)) [(1000000, 1000000)] rfl ⟨lr, SV.le_lit rfl rfl, trivial⟩ ⟨rr, trivial⟩ rfl rfl ?_; rotate_right; rintro x rout ⟨⟨u2, hu2, rfl⟩, ⟨c, c1, c2, rfl⟩⟩; have hg2 := q4 u2; have hg3 : 0 ≤ g (keyE [DV.str u2]) := hg2.1; have hg4 : g (keyE [DV.str u2]) ≤ k := hg2.2; have hw2 := mem_len hu2 rfl; refine ⟨rfl, ?_⟩; conv => whnf) | (refine CallX.of (s15 n L hL _ ?_ ?_ [[], [65]] (by simp) (by simp)) [(1000000, 1000000)] rfl ⟨lr, SV.le_lit rfl rfl, trivial⟩ ⟨rr, trivial⟩ rfl rfl ?_; rotate_right; rintro x rout ⟨⟨u3, hu3, rfl⟩, ⟨c, c1, c2, rfl⟩⟩; have hw3 := mem_len hu3 rfl; refine ⟨rfl, ?_⟩; conv => whnf) | (refine CallX.of (s15 n L hL _ ?_ ?_ [[], [97, 10], [195]] (by simp) (by simp)) [(1000000, 1000000)] rfl ⟨lr, SV.le_lit rfl rfl, trivial⟩ ⟨rr, trivial⟩ rfl rfl ?_; rotate_right; rintro x rout ⟨⟨u4, hu4, rfl⟩, ⟨c, c1, c2, rfl⟩⟩; have hw4 := mem_len hu4 rfl; refine ⟨rfl, ?_⟩; conv => whnf) | (refine CallX.of (s104 n L hL _ ?_ ?_ 0 1000 ?_ ?_ ?_) [(1000000, 1000000)] rfl ⟨lr, lr, lr, trivial⟩ ⟨rr, trivial⟩ rfl rfl ?_; rotate_right; rintro x rout ⟨⟨u5, hk1, hk2, rfl⟩, ⟨c, c1, c2, rfl⟩⟩; refine ⟨rfl, ?_⟩; conv => whnf) | (refine CallX.of (s104 n L hL _ ?_ ?_ 1 1000000 ?_ ?_ ?_) [(1000000, 1000000)] rfl ⟨lr, lr, lr, trivial⟩ ⟨rr, trivial⟩ rfl rfl ?_; rotate_right; rintro x rout ⟨⟨u6, hk3, hk4, rfl⟩, ⟨c, c1, c2, rfl⟩⟩; refine ⟨rfl, ?_⟩; conv => whnf) | (refine CallX.of (s84 n L hL _ ?_ ?_ _ ?_) [(1000000, 1000000)] rfl ⟨lr, lr, trivial⟩ ⟨rr, trivial⟩ rfl rfl ?_; rotate_right; rintro x rout ⟨⟨f, rfl⟩, ⟨c, c1, c2, rfl⟩⟩; refine ⟨rfl, ?_⟩; conv => whnf) | (refine CallX.of (s86 n L hL _ ?_ ?_ _ ?_) [(1000000, 1000000)] rfl ⟨lr, lr, trivial⟩ ⟨rr, trivial⟩ rfl rfl ?_; rotate_right; rintro x rout ⟨⟨j, hj1, hj2, hj3, rfl⟩, ⟨c, c1, c2, rfl⟩⟩; refine ⟨rfl, ?_⟩; conv => whnf) | (refine CallX.of (lz59 n L hL _ (by omega) (by omega) (t + u1) (by omega) (by omega)) [(1000000, 1000000), (1000009, 1000009)] rfl ⟨lr, lr, trivial⟩ ⟨rr, rr, trivial⟩ rfl rfl ?_; rintro x rout ⟨⟨w, hw, rfl⟩, ⟨c5, c51, c52, rfl⟩⟩; refine ⟨rfl, ?_⟩; conv => whnf) | (refine And.intro (rfl : zrow _ = some [DV.int .i64 0]) ?_; conv => whnf) | (simp only [Nat.beq_refl, cond_true]; conv => whnf) | (rw [keyEq_one, cond_true]; conv => whnf) | (refine br_intro ?_ ?_ <;> intro hb <;> (try simp only [brs] at hb) <;> conv => whnf) | (refine RegX.rule (id := 9) hT rfl [] oXEnF9_9 (by decide +kernel) ?_; conv => whnf) | omega | (refine And.intro ?_ ?_; ((try dsimp only); first | omega | (refine szA rfl ?_; omega) | (refine szB rfl ?_; omega) | (unfold inI64; omega) | exact rfl | (simp only [List.toList_toArray, List.length_cons, List.length_nil]; omega) | (simp only [lns] at *; omega) | decide | (unfold inI64; decide)); conv => whnf) | decide | assumption)
 all_goals first
  | (refine ⟨(_, _, k + 1, _, upE g u2), ?_, ?_, Entails.mk' [(1000000, 1000000), (1000009, 1000009), (5, 62), (7, 7)] rfl rfl ⟨lr, lr, lr, lr, lr, lr, trivial⟩ ⟨rr, rr, Res.le_snocF (x := ⟨_, _, _, _⟩) rfl, mpE_up (fun s => (q4 s).1), trivial⟩⟩
     · dsimp only
       refine ⟨⟨by omega, by omega, by omega⟩, allK_snoc q1 (Nat.le_refl _) ⟨⟨?_, ?_⟩, ⟨?_, ?_⟩, ?_, ?_⟩, ⟨by omega, by omega⟩, fun s => ?_⟩
       · first
          | exact hw2
          | exact hw3
       · first
          | exact hw
          | exact Nat.le_trans hw4 (by omega)
       · (try dsimp only); omega
       · (try dsimp only); omega
       · (try dsimp only); omega
       · (try dsimp only); omega
       · have z1 := q4 s
         have z2 := q4 u2
         show 0 ≤ upE g u2 s ∧ upE g u2 s ≤ ((k + 1 : Nat) : Int)
         unfold upE
         split <;> omega
     · show 12 - (k + 1) < 12 - k; omega)
  | skip
 refine CallX.of (en126 63 entCmp l (by omega) (fun p q hp hq => lz63 p q (q1.2 p hp).2 (q1.2 q hq).2)) [(1000001, 5)] rfl ⟨lr, lr, trivial⟩ ⟨rr, trivial⟩ rfl rfl ?_
 rintro x rout ⟨rfl, e, he, rfl⟩
 refine ⟨rfl, ?_⟩
 have he1 := he.1
 conv => whnf
 repeat' (first | (refine br_intro ?_ ?_ <;> intro hb <;> (try simp only [brs] at hb) <;> conv => whnf) | (refine RegX.rule (id := 9) hT rfl [] oXEnF9_9 (by decide +kernel) ?_; conv => whnf) | omega | (refine And.intro ?_ ?_; ((try dsimp only); first | omega | (refine szA rfl ?_; omega) | (refine szB rfl ?_; omega) | (unfold inI64; omega) | exact rfl | (simp only [List.toList_toArray, List.length_cons, List.length_nil]; omega) | (simp only [lns] at *; omega) | decide | (unfold inI64; decide)); conv => whnf) | decide | assumption)
 refine .freeze _ 5 39 4 _ _ rfl (.weak _ ?_)
 (conv => whnf)
 exact ⟨_, [(1000000, strm n L b), (1000009, KX)], lr, ⟨⟨e, ⟨by omega, fun p hp => q1.2 p (he.2 p hp)⟩, rfl⟩, b, by omega, by omega, rfl⟩, rr, rr, trivial⟩
theorem entG_ok {l : List Ent} {k : Nat} (h : allK entG k l) (hk : k ≤ 2^20) : entOk l :=
 ⟨by have := h.1; omega, fun x hx => by
   obtain ⟨⟨h1, h2⟩, h3⟩ := h.2 x hx
   exact ⟨⟨by omega, by omega⟩, h3⟩⟩
theorem lz73 (n : Nat) (L : Nat → Int) (hL : Rok n L) (a : Int) (h0 : 0 ≤ a) (ha : a ≤ 2^35) (m : Int) (hm1 : 0 ≤ m) (hm2 : m ≤ 6) :
 FSpec Tryz.prog 73 [.ptr 1000000 0, .d (.int .i64 m)] [(1000000, strm n L a), (1000009, KX)] (fun y r => (∃ l : List Ent, (allK entG m.toNat l ∧ entsE l = 0) ∧ y = .d (ents l)) ∧ MovedK n L a 1600 r) := by
 refine spec_of hT (C := []) Tryz.func73 rfl Tryz.call73 rfl rfl rfl ?_
 conv => whnf
 refine LoopX.rule hT (C := []) (ι := Int × Nat) (fun (b, k) => (a ≤ b ∧ b ≤ a + 300 * k) ∧ k ≤ 5)
  (fun (b, k) => mkSt [(0, .ptr 1000000 0), (1, .d (.int .i64 m)), (6, .d (.int .i64 k))] [(1000000, strm n L b), (1000009, KX)]) (fun (_, k) => 5 - k) (a, 0) ⟨⟨by simp, by simp⟩, by simp⟩ (by (refine Entails.mk' [(1000000, 1000000), (1000009, 1000009)] rfl rfl ?_ ?_ <;> repeat' (first | exact True.intro | exact lr | exact rr | exact SV.le_int (by omega) | exact SV.le_any _ | refine And.intro ?_ ?_)); done) ?_
 rintro ⟨b, k⟩ ⟨⟨p1, p2⟩, p3⟩
 have p1 : a ≤ b := p1
 have p2 : b ≤ a + 300 * k := p2
 have p3 : k ≤ 5 := p3
 conv => whnf
 repeat' (first | (refine CallX.of (lz9 n L hL b (by omega) (by omega) m hm1 hm2) [(1000000, 1000000), (1000009, 1000009)] rfl ⟨lr, lr, trivial⟩ ⟨rr, rr, trivial⟩ rfl rfl ?_; rintro x rout ⟨⟨l, hl, rfl⟩, ⟨c, c1, c2, rfl⟩⟩; refine ⟨rfl, ?_⟩; conv => whnf) | (refine CallX.exact (lz12 l (entG_ok hl (by omega))) rfl rfl ?_; rotate_right; conv => whnf) | (refine br_intro ?_ ?_ <;> intro hb <;> (try simp only [brs] at hb) <;> conv => whnf) | omega | (refine And.intro ?_ ?_; ((try dsimp only); first | omega | (refine szA rfl ?_; omega) | (refine szB rfl ?_; omega) | (unfold inI64; omega) | exact rfl | (simp only [List.toList_toArray, List.length_cons, List.length_nil]; omega) | (simp only [lns] at *; omega) | decide | (unfold inI64; decide)); conv => whnf) | decide | assumption)
 · refine .ret _ ?_
   conv => whnf
   exact ⟨[(1000000, strm n L c), (1000009, KX)], ⟨⟨l, ⟨hl, hb⟩, rfl⟩, c, by omega, by omega, rfl⟩, rr, rr, trivial⟩
 · exact ⟨(c, k + 1), ⟨⟨by show a ≤ c; omega, by show c ≤ a + 300 * ((k + 1 : Nat) : Int); omega⟩, by show k + 1 ≤ 5; omega⟩, by show 5 - (k + 1) < 5 - k; omega, (by (refine Entails.mk' [(1000000, 1000000), (1000009, 1000009)] rfl rfl ?_ ?_ <;> repeat' (first | exact True.intro | exact lr | exact rr | exact SV.le_int (by omega) | exact SV.le_any _ | refine And.intro ?_ ?_)); done)⟩
 · refine .weak _ ?_
   conv => whnf
   exact ⟨_, [(1000000, strm n L b), (1000009, KX)], SV.le_nilS, ⟨⟨[], ⟨⟨by simp, by simp⟩, rfl⟩, rfl⟩, b, by omega, by omega, rfl⟩, rr, rr, trivial⟩
end Go.Proofs.YtgeakdcbpjmkbaaGreatDoor
namespace Go.Proofs
open Go.Shelf
end Go.Proofs
set_option maxRecDepth 20000
namespace Go.Proofs.YtgeakdcbpjmkbaaGreatDoor
open Go Go.Eng Go.Shelf
end Go.Proofs.YtgeakdcbpjmkbaaGreatDoor
set_option maxRecDepth 20000
namespace Go.Proofs.YtgeakdcbpjmkbaaGreatDoor
open Go Go.Eng Go.Shelf Go.RowKit
theorem txS {α : Type} {pf : α → List Part} {l : List α} {N : Nat} (h : (txF pf l).length ≤ N) (i : Nat) : (txF pf (l.take i)).length ≤ N := by
 have e : txF pf l = txF pf (l.take i) ++ txF pf (l.drop i) := by
  unfold txF
  rw [← List.flatten_append, ← List.map_append, List.take_append_drop]
 rw [e, List.length_append] at h
 omega
theorem lz67 (s : List UInt8) (h : s.length ≤ 200000) : FSpec Tryz.prog 67 [.d (.str s)] [] (fun x r => x = .tup [.d (.str s), .d (.int .i64 0)] ∧ r = []) := by
 refine spec_of hT (C := []) Tryz.func67 rfl Tryz.call67 rfl rfl rfl ?_
 conv => whnf
 repeat' (first | (refine br_intro ?_ ?_ <;> intro hb <;> (try simp only [brs] at hb) <;> conv => whnf) | omega | (refine And.intro ?_ ?_; ((try dsimp only); first | omega | (refine szA rfl ?_; omega) | (refine szB rfl ?_; omega) | (unfold inI64; omega) | exact rfl | (simp only [List.toList_toArray, List.length_cons, List.length_nil]; omega) | (simp only [lns] at *; omega) | decide | (unfold inI64; decide)); conv => whnf) | decide | assumption)
 refine .ret _ ?_
 conv => whnf
 refine ⟨[], ⟨?_, rfl⟩, trivial⟩
 conv => lhs; whnf
 all_goals rfl
def oXEnG13_5 : List (Nat × List Nat) := [(0, []), (1, [0]), (2, [0]), (5, [0, 1, 2]), (6, [0, 1, 2]), (9, [0, 1, 2, 5, 6]), (10, [0, 1, 2, 5, 6]), (14, [0, 1, 2, 5, 6, 9, 10]), (15, [0, 1, 2, 5, 6, 9, 10]), (3, [0, 5, 6, 9, 10, 14, 15]), (4, [0, 5, 6, 9, 10, 14, 15]), (7, [0, 9, 10, 14, 15]), (8, [0, 9, 10, 14, 15]), (11, [0, 5, 6, 14, 15, 4, 7, 8]), (12, [0, 14, 15]), (13, [0, 14, 15]), (16, [0]), (17, [0]), (18, []), (19, [])]
def entP (p : Ent) : List Part := [.inl p.tm, .inr p.desk, .inl p.no, .inr p.words]
def ent1 (p : Ent) : Prop := (p.desk.length ≤ 2^10 ∧ p.words.length ≤ 2^10) ∧ (-2^60 ≤ p.tm ∧ p.tm ≤ 2^60) ∧ (-2^60 ≤ p.no ∧ p.no ≤ 2^60)
theorem ent1_ln {p : Ent} (h : ent1 p) : lnOk (entP p) := by
 obtain ⟨⟨h1, h2⟩, ⟨h3, h4⟩, h5, h6⟩ := h
 refine ⟨by simp [entP], fun q hq => ?_⟩
 simp only [entP, List.mem_cons, List.not_mem_nil, or_false] at hq
 have e1 := itoa_len h3 h4
 have e2 := itoa_len h5 h6
 rcases hq with rfl | rfl | rfl | rfl <;> simp only [partS] <;> omega
theorem ent1_ok {p : Ent} (h : ent1 p) : ∀ q ∈ entP p, partOk q := by
 obtain ⟨⟨h1, h2⟩, ⟨h3, h4⟩, h5, h6⟩ := h
 intro q hq
 simp only [entP, List.mem_cons, List.not_mem_nil, or_false] at hq
 rcases hq with rfl | rfl | rfl | rfl <;> simp only [partOk] <;> first | trivial | omega
theorem ent1_0 : ent1 en0 := by simp [ent1, en0]
theorem lnB_ent (p : Ent) : lnB (entP p) = Lib.itoa p.tm ++ [32] ++ p.desk ++ [32] ++ Lib.itoa p.no ++ [32] ++ p.words ++ [10] := by
 unfold lnB entP
 simp [partS, Lib.join_cons, Lib.joinTail]
theorem lz11 (l : List Ent) (hk : entOk l) (hl : l.length ≤ 2^15 ∧ ∀ p ∈ l, ent1 p) (hsz : (txF entP l).length ≤ 200000) : FSpec Tryz.prog 11 [.d (seqD 4 enF en0 l)] kx (fun x r => x = .tup [.d (.str (if entsE l = 0 then txF entP l else [])), .d (.int .i64 (entsE l))] ∧ r = kx) := by
 have hq : ∀ i, ent1 (l.getD i en0) := fun i => by
  rcases Nat.lt_or_ge i l.length with q | q
  · exact hl.2 _ (getD_mem q)
  · rw [List.getD_eq_getElem?_getD, List.getElem?_eq_none q]; exact ent1_0
 have hJ := fun i => lnOk_len (ent1_ln (hq i))
 have hC := fun i => zWJoin (entP (l.getD i en0)) (by simp [entP]) (ent1_ok (hq i)) (by have := hJ i; omega)
 have hT' := fun i => txF_len (pf := entP) (l := l.take i) (fun p hp => ent1_ln (hl.2 p (List.mem_of_mem_take hp)))
 have hlen := hl.1
 refine spec_of hT (C := []) Tryz.func11 rfl Tryz.call11 rfl rfl rfl ?_
 conv => whnf
 repeat' (first | (refine CallX.exact (lz64 l hk) rfl rfl ?_; rotate_right; conv => whnf) | (refine br_intro ?_ ?_ <;> intro hb <;> (try simp only [brs] at hb) <;> conv => whnf) | omega | (refine And.intro ?_ ?_; ((try dsimp only); first | omega | (refine szA rfl ?_; omega) | (refine szB rfl ?_; omega) | (unfold inI64; omega) | exact rfl | (simp only [List.toList_toArray, List.length_cons, List.length_nil]; omega) | (simp only [lns] at *; omega) | decide | (unfold inI64; decide)); conv => whnf) | decide | assumption)
 · refine .ret _ ?_
   conv => whnf
   refine ⟨kx, ⟨congrArg SV.tup ?_, rfl⟩, rr, trivial⟩
   repeat' (refine cons_eq ?_ ?_)
   all_goals (conv => lhs; whnf)
   all_goals try (with_reducible rfl)
   · rw [if_neg hb]
 have h0 := hb
 rw [h0, if_pos rfl]
 rcases Nat.eq_zero_or_pos l.length with h00 | h00
 · refine LoopX.unroll hT (C := []) (fun _ _ h => h) (fun _ h => h) ?_
   conv => whnf
   repeat' (first | (refine CallX.of zStrN [(1000001, 5)] rfl ⟨lr, trivial⟩ ⟨rr, trivial⟩ rfl rfl ?_; rintro x rout ⟨rfl, rfl⟩; refine ⟨rfl, ?_⟩; conv => whnf) | (refine CallX.exact (lz67 _ (by simp [txS hsz])) rfl rfl ?_; rotate_right; conv => whnf) | (refine br_intro ?_ ?_ <;> intro hb <;> (try simp only [brs] at hb) <;> conv => whnf) | omega | (refine And.intro ?_ ?_; ((try dsimp only); first | omega | (refine szA rfl ?_; omega) | (refine szB rfl ?_; omega) | (unfold inI64; omega) | exact rfl | (simp only [List.toList_toArray, List.length_cons, List.length_nil]; omega) | (simp only [lns] at *; omega) | decide | (unfold inI64; decide)); conv => whnf) | decide | assumption)
   have : l = [] := List.eq_nil_of_length_eq_zero h00
   subst this
   refine .ret _ ?_
   conv => whnf
   refine ⟨kx, ⟨congrArg SV.tup ?_, rfl⟩, rr, trivial⟩
   repeat' (refine cons_eq ?_ ?_)
   all_goals (conv => lhs; whnf)
   all_goals try (with_reducible rfl)
   all_goals rfl
 have hJ0 := hJ 0
 refine LoopX.unroll hT (C := []) (fun _ _ h => h) (fun _ h => h) ?_
 conv => whnf
 repeat' (first | (refine CallX.look (hC 0) [(1000009, 1000009)] rfl ⟨SV.le_lit rfl rfl, trivial⟩ ⟨⟨_, rfl, rfl⟩, trivial⟩ rfl rfl rfl ?_; conv => whnf) | (refine CallX.of (zWrN (lnB (entP (l.getD 0 en0))) (by unfold lnB; have := hJ 0; simp only [List.length_append, List.length_singleton]; omega)) [(1000001, 5), (14, 40)] rfl ⟨lr, lr, trivial⟩ ⟨rr, trivial⟩ rfl rfl ?_; rintro x rout ⟨rfl, rfl⟩; refine ⟨rfl, ?_⟩; conv => whnf) | (refine br_intro ?_ ?_ <;> intro hb <;> (try simp only [brs] at hb) <;> conv => whnf) | omega | (refine And.intro ?_ ?_; ((try dsimp only); first | omega | (refine szA rfl ?_; omega) | (refine szB rfl ?_; omega) | (unfold inI64; omega) | exact rfl | (simp only [List.toList_toArray, List.length_cons, List.length_nil]; omega) | (simp only [lns] at *; omega) | decide | (unfold inI64; decide)); conv => whnf) | decide | assumption)
 have he1 : lnB (entP (l.getD 0 en0)) = txF entP (l.take 1) := by rw [txF_snoc (d := en0) h00]; simp [txF]
 refine LoopX.rule hT (C := []) (ι := Nat) (fun i => i ≤ l.length) (fun i => mkSt [(5, .ptr 5 0), (13, .d (seqD 4 enF en0 l)), (14, .d (.int .i64 l.length)), (15, .d (.int .i64 i))] [(1000009, KX), (5, .cells 98 [.ptr 5 0, .buf 40]), (40, bytB (txF entP (l.take i)))]) (fun i => l.length - i) 1 h00 ?_ ?_
 · rw [← he1]
   exact (by (refine Entails.mk' [(1000009, 1000009), (5, 5), (40, 40)] rfl rfl ?_ ?_ <;> repeat' (first | exact True.intro | exact lr | exact rr | exact SV.le_int (by omega) | exact SV.le_any _ | refine And.intro ?_ ?_)); done)
 intro i hi
 have hJi := hJ i
 have hTi := hT' i
 have hTl : (l.take i).length = i := by simp; omega
 rw [hTl] at hTi
 conv => whnf
 repeat' (first | (refine CallX.look (hC i) [(1000009, 1000009)] rfl ⟨SV.le_lit rfl rfl, trivial⟩ ⟨⟨_, rfl, rfl⟩, trivial⟩ rfl rfl rfl ?_; conv => whnf) | (refine CallX.of (zWrB (txF entP (l.take i)) (lnB (entP (l.getD i en0))) (by unfold lnB; simp only [List.length_append, List.length_singleton]; omega)) [(1000001, 5), (1000002, 40), (14, 41)] rfl ⟨lr, lr, trivial⟩ ⟨rr, rr, trivial⟩ rfl rfl ?_; rintro x rout ⟨rfl, rfl⟩; refine ⟨rfl, ?_⟩; conv => whnf) | (refine CallX.of (zStrB (txF entP (l.take i)) (.ptr 1000001 0)) [(1000001, 5), (1000002, 40)] rfl ⟨lr, trivial⟩ ⟨rr, rr, trivial⟩ rfl rfl ?_; rintro x rout ⟨rfl, rfl⟩; refine ⟨rfl, ?_⟩; conv => whnf) | (refine CallX.exact (lz67 _ (by simp [txS hsz])) rfl rfl ?_; rotate_right; conv => whnf) | (refine br_intro ?_ ?_ <;> intro hb <;> (try simp only [brs] at hb) <;> conv => whnf) | omega | (refine And.intro ?_ ?_; ((try dsimp only); first | omega | (refine szA rfl ?_; omega) | (refine szB rfl ?_; omega) | (unfold inI64; omega) | exact rfl | (simp only [List.toList_toArray, List.length_cons, List.length_nil]; omega) | (simp only [lns] at *; omega) | decide | (unfold inI64; decide)); conv => whnf) | decide | assumption)
 · have hlt : i < l.length := by omega
   refine ⟨i + 1, by omega, by omega, ?_⟩
   rw [txF_snoc (d := en0) hlt]
   exact (by (refine Entails.mk' [(1000009, 1000009), (5, 5), (40, 41)] rfl rfl ?_ ?_ <;> repeat' (first | exact True.intro | exact lr | exact rr | exact SV.le_int (by omega) | exact SV.le_any _ | refine And.intro ?_ ?_)); done)
 · have : i = l.length := by omega
   subst this
   refine .ret _ ?_
   conv => whnf
   refine ⟨kx, ⟨congrArg SV.tup ?_, rfl⟩, rr, trivial⟩
   repeat' (refine cons_eq ?_ ?_)
   all_goals (conv => lhs; whnf)
   all_goals try (with_reducible rfl)
   · rw [List.take_length]
theorem lz13 (l : List Ent) (hl : l.length ≤ 2^15 ∧ ∀ p ∈ l, ent1 p) : FSpec Tryz.prog 13 [.d (ents l)] kx (fun x r => x = .d (.str (txF entP l)) ∧ r = kx) := by
 have hq : ∀ i, ent1 (l.getD i en0) := fun i => by
  rcases Nat.lt_or_ge i l.length with q | q
  · exact hl.2 _ (getD_mem q)
  · rw [List.getD_eq_getElem?_getD, List.getElem?_eq_none q]; exact ent1_0
 have hT' := fun i => txF_len (pf := entP) (l := l.take i) (fun p hp => ent1_ln (hl.2 p (List.mem_of_mem_take hp)))
 have hlen := hl.1
 refine spec_of hT (C := []) Tryz.func13 rfl Tryz.call13 rfl rfl rfl ?_
 conv => whnf
 refine LoopX.rule hT (C := []) (ι := Nat) (fun i => i ≤ l.length) (fun i => mkSt [(3, .d (.str (txF entP (l.take i)))), (6, .d (ents l)), (7, .d (.int .i64 l.length)), (8, .d (.int .i64 i))] [(1000009, KX)]) (fun i => l.length - i) 0 (by simp) (by (refine Entails.mk' [(1000009, 1000009)] rfl rfl ?_ ?_ <;> repeat' (first | exact True.intro | exact lr | exact rr | exact SV.le_int (by omega) | exact SV.le_any _ | refine And.intro ?_ ?_)); done) ?_
 intro i hi
 have e1 : (i : Int).toNat = i := Int.toNat_natCast i
 have hTi := hT' i
 have hTl : (l.take i).length = i := by simp; omega
 rw [hTl] at hTi
 obtain ⟨⟨b1, b2⟩, ⟨b3, b4⟩, b5, b6⟩ := hq i
 have hL := itoa_len b3 b4
 have hL2 := itoa_len b5 b6
 have c1 := zItoa (l.getD i en0).tm (by omega) (by omega)
 have c2 := zItoa (l.getD i en0).no (by omega) (by omega)
 conv => whnf
 repeat' (first | (refine CallX.kn c1 rfl rfl rfl rfl ?_; conv => whnf) | (refine CallX.kn c2 rfl rfl rfl rfl ?_; conv => whnf) | (refine And.intro (by simp only [e1, List.length_append, List.toList_toArray, List.length_cons, List.length_nil]; omega) ?_; conv => whnf) | (refine br_intro ?_ ?_ <;> intro hb <;> (try simp only [brs] at hb) <;> conv => whnf) | (refine RegX.rule (id := 5) hT rfl [] oXEnG13_5 (by decide +kernel) ?_; conv => whnf) | omega | (refine And.intro ?_ ?_; ((try dsimp only); first | omega | (refine szA rfl ?_; omega) | (refine szB rfl ?_; omega) | (unfold inI64; omega) | exact rfl | (simp only [List.toList_toArray, List.length_cons, List.length_nil]; omega) | (simp only [lns] at *; omega) | decide | (unfold inI64; decide)); conv => whnf) | decide | assumption)
 · have hlt : i < l.length := by omega
   refine ⟨i + 1, by omega, by omega, ?_⟩
   rw [txF_snoc (d := en0) hlt, lnB_ent]
   exact (by (refine Entails.mk' [(1000009, 1000009)] rfl rfl ?_ ?_ <;> repeat' (first | exact True.intro | exact lr | exact rr | exact SV.le_int (by omega) | exact SV.le_any _ | refine And.intro ?_ ?_)); done)
 · have : i = l.length := by omega
   subst this
   refine .ret _ ?_
   conv => whnf
   refine ⟨kx, ⟨?_, rfl⟩, rr, trivial⟩
   conv => lhs; whnf
   rw [List.take_length]
theorem entG_tx {l : List Ent} {k : Nat} (h : allK entG k l) (hk : k ≤ 2^15) : l.length ≤ 2^15 ∧ ∀ p ∈ l, ent1 p :=
 ⟨by have := h.1; omega, fun p hp => by
   obtain ⟨⟨h1, h2⟩, ⟨h3, h4⟩, h5, h6⟩ := h.2 p hp
   exact ⟨⟨by omega, by omega⟩, ⟨by omega, by omega⟩, by omega, by omega⟩⟩
theorem txF_leG {l : List Ent} {k : Nat} (h : allK entG k l) : (txF entP l).length ≤ k * 1100 := by
 have key : ∀ l : List Ent, (∀ p ∈ l, entG p) → (txF entP l).length ≤ l.length * 1100 := by
  intro l
  induction l with
  | nil => intro _; simp [txF]
  | cons x r ih =>
    intro h
    obtain ⟨⟨h1, h2⟩, ⟨h3, h4⟩, h5, h6⟩ := h x List.mem_cons_self
    have i1 := itoa_len (n := x.tm) (by omega) (by omega)
    have i2 := itoa_len (n := x.no) (by omega) (by omega)
    have h7 := ih (fun p hp => h p (List.mem_cons_of_mem _ hp))
    have h8 : (lnB (entP x)).length ≤ 1100 := by
     rw [lnB_ent]
     simp only [List.length_append, List.length_singleton]
     omega
    simp only [txF, List.map_cons, List.flatten_cons, List.length_append, List.length_cons] at h7 ⊢
    rw [Nat.add_mul, Nat.one_mul]; omega
 exact Nat.le_trans (key l h.2) (Nat.mul_le_mul_right _ h.1)
theorem lz14 (n : Nat) (L : Nat → Int) (hL : Rok n L) (a : Int) (h0 : 0 ≤ a) (ha : a ≤ 2^34) :
 FSpec Tryz.prog 14 [.ptr 1000000 0] [(1000000, strm n L a), (1000009, KX)] (fun y r => (∃ t : List UInt8, t.length ≤ 2^18 ∧ y = .d (.str t)) ∧ MovedK n L a 1700 r) := by
 refine spec_of hT (C := []) Tryz.func14 rfl Tryz.call14 rfl rfl rfl ?_
 conv => whnf
 repeat' (first | (refine CallX.of (s64 n L hL _ ?_ ?_ 0 4 ?_ ?_ ?_ ?_) [(1000000, 1000000)] rfl ⟨lr, lr, lr, trivial⟩ ⟨rr, trivial⟩ rfl rfl ?_; rotate_right; rintro x rout ⟨⟨u0, hu1, hu2, rfl⟩, ⟨c, c1, c2, rfl⟩⟩; refine ⟨rfl, ?_⟩; conv => whnf) | (refine br_intro ?_ ?_ <;> intro hb <;> (try simp only [brs] at hb) <;> conv => whnf) | omega | (refine And.intro ?_ ?_; ((try dsimp only); first | omega | (refine szA rfl ?_; omega) | (refine szB rfl ?_; omega) | (unfold inI64; omega) | exact rfl | (simp only [List.toList_toArray, List.length_cons, List.length_nil]; omega) | (simp only [lns] at *; omega) | decide | (unfold inI64; decide)); conv => whnf) | decide | assumption)
 refine CallX.of (lz73 n L hL _ (by omega) (by omega) u0 (by omega) (by omega)) [(1000000, 1000000), (1000009, 1000009)] rfl ⟨lr, lr, trivial⟩ ⟨rr, rr, trivial⟩ rfl rfl ?_
 rintro x rout ⟨⟨l, ⟨hl, hl0⟩, rfl⟩, ⟨c1, hc11, hc12, rfl⟩⟩
 refine ⟨rfl, ?_⟩
 have hl2 := entG_tx hl (by omega)
 have hl3 := txF_leG hl
 have hu3 : u0.toNat ≤ 4 := by omega
 have hl4 : u0.toNat * 1100 ≤ 4 * 1100 := Nat.mul_le_mul_right _ hu3
 conv => whnf
 refine CallX.kn (lz13 l hl2) rfl rfl rfl rfl ?_
 conv => whnf
 obtain ⟨T, hTT⟩ : ∃ T : List UInt8, txF entP l = T := ⟨_, rfl⟩
 rw [hTT] at hl3 ⊢
 repeat' (first | (refine CallX.of (s33 n L hL _ ?_ ?_ [0, 0, 1, 2] ?_ ?_) [(1000000, 1000000)] rfl ⟨lr, SV.le_lit rfl rfl, trivial⟩ ⟨rr, trivial⟩ rfl rfl ?_; rotate_right; rintro x rout ⟨⟨u1, hu3, rfl⟩, ⟨c, c1, c2, rfl⟩⟩; refine ⟨rfl, ?_⟩; conv => whnf) | (refine br_intro ?_ ?_ <;> intro hb <;> (try simp only [brs] at hb) <;> conv => whnf) | omega | (refine And.intro ?_ ?_; ((try dsimp only); first | omega | (refine szA rfl ?_; omega) | (refine szB rfl ?_; omega) | (unfold inI64; omega) | exact rfl | (simp only [List.toList_toArray, List.length_cons, List.length_nil]; omega) | (simp only [lns] at *; omega) | decide | (unfold inI64; decide)); conv => whnf) | decide | assumption)
 have hu4 := pick4 hu3
 refine LoopX.rule hT (C := []) (ι := Int × List UInt8 × Nat) (fun (b, t, k) => (a ≤ b ∧ b ≤ a + 1602 + 4 * k) ∧ ((k : Int) ≤ u1 ∧ t.length ≤ 2^17 + 20 * k))
  (fun (b, t, k) => mkSt [(0, .ptr 1000000 0), (3, .d (.str t)), (11, .d (.int .i64 u1)), (12, .d (.int .i64 k))] [(1000000, strm n L b), (1000009, KX)]) (fun (_, _, k) => 2 - k) (c, _, 0) ⟨⟨?_, ?_⟩, ?_, ?_⟩ (by (refine Entails.mk' [(1000000, 1000000), (1000009, 1000009)] rfl rfl ?_ ?_ <;> repeat' (first | exact True.intro | exact lr | exact rr | exact SV.le_int (by omega) | exact SV.le_any _ | refine And.intro ?_ ?_)); done) ?_
 · omega
 · simp <;> omega
 · simp <;> omega
 · simp <;> omega
 rintro ⟨b, t, k⟩ ⟨⟨p1, p2⟩, p3, p4⟩
 conv => whnf
 repeat' (first | (refine CallX.of (s74 n L hL _ ?_ ?_ t _ ?_ ?_) [(1000000, 1000000)] rfl ⟨lr, lr, lr, trivial⟩ ⟨rr, trivial⟩ rfl rfl ?_; rotate_right; rintro x rout ⟨⟨u, hu, rfl⟩, ⟨c, c1, c2, rfl⟩⟩; refine ⟨rfl, ?_⟩; conv => whnf) | (refine br_intro ?_ ?_ <;> intro hb <;> (try simp only [brs] at hb) <;> conv => whnf) | omega | (refine And.intro ?_ ?_; ((try dsimp only); first | omega | (refine szA rfl ?_; omega) | (refine szB rfl ?_; omega) | (unfold inI64; omega) | exact rfl | (simp only [List.toList_toArray, List.length_cons, List.length_nil]; omega) | (simp only [lns] at *; omega) | decide | (unfold inI64; decide)); conv => whnf) | decide | assumption)
 · simp only [List.toList_toArray, List.length_cons, List.length_nil] at hu
   exact ⟨(c, u, k + 1), ⟨⟨by omega, by omega⟩, by omega, by omega⟩, by show 2 - (k + 1) < 2 - k; omega, (by (refine Entails.mk' [(1000000, 1000000), (1000009, 1000009)] rfl rfl ?_ ?_ <;> repeat' (first | exact True.intro | exact lr | exact rr | exact SV.le_int (by omega) | exact SV.le_any _ | refine And.intro ?_ ?_)); done)⟩
 · refine .ret _ ?_
   conv => whnf
   exact ⟨[(1000000, strm n L b), (1000009, KX)], ⟨⟨t, by omega, rfl⟩, ⟨b, by omega, by omega, rfl⟩⟩, rr, rr, trivial⟩
end Go.Proofs.YtgeakdcbpjmkbaaGreatDoor
set_option maxRecDepth 20000
namespace Go.Proofs.YtgeakdcbpjmkbaaGreatDoor
open Go Go.Eng Go.Shelf Go.RowKit
theorem zSplitN (s p : List UInt8) (k : Nat) (hl : s.length ≤ 2^31) (hp : 1 ≤ p.length) (hk : 1 ≤ k) (hk2 : k ≤ 2^31) : FSpec Tryz.prog 77 [.d (.str s), .d (.str p), .d (.int .i64 k)] kx (fun x r => x = .d (strs (Lib.splitN s p k)) ∧ r = kx) := by
 refine FSpec.ofKnowP (post := fun x => x = .d (strs (Lib.splitN s p k))) Tryz.call77 (fun G β w vs hq hg hvl hd => ?_)
 match vs, hvl with
 | [u, v, z], _ =>
   have h0 := hd 0 _ u rfl rfl
   have h1 := hd 1 _ v rfl rfl
   have h2 := hd 2 _ z rfl rfl
   cases h0 with | d _ _ h0 => cases h0 with | str _ =>
   cases h1 with | d _ _ h1 => cases h1 with | str _ =>
   cases h2 with | d _ _ h2 => cases h2 with | int _ _ =>
   obtain ⟨_, ⟨m, c0⟩, _⟩ := hq w hg
   have hcon := Any.strings_SplitN Tryz.lays147 (by kernel_rfl) ⟨s.toArray⟩ ⟨p.toArray⟩ k m w (by rw [bsz]; omega) c0 (by rw [bsz]; exact hp) hk (by omega)
   have e : Tryz.lays147_ren.f 147 = 77 := rfl
   rw [e] at hcon
   have hsz : (⟨s.toArray⟩ : ByteArray).size = s.length := bsz s
   rw [hsz] at hcon
   have hdat : (Lib.splitB ⟨p.toArray⟩ 0 (min k (s.length + 1) - 1) ⟨s.toArray⟩).map (·.data.toList) = Lib.splitN s p k := by
    rw [Lib.splitB_data]; simp [Lib.splitN]
   have hlen := Lib.splitB_length_le ⟨p.toArray⟩ 0 (min k (s.length + 1) - 1) ⟨s.toArray⟩
   generalize hLL : Lib.splitB ⟨p.toArray⟩ 0 (min k (s.length + 1) - 1) ⟨s.toArray⟩ = LL at hcon hdat hlen
   obtain ⟨G', g1, g2, g3, g4⟩ := newRow_den hg LL (min k (s.length + 1)) (by omega) (by unfold maxLen; omega) (Lib.cellsOf LL (min k (s.length + 1))) (Tryz.lays147_ren.t 9) (fun i hi => by
    unfold Lib.cellsOf
    rw [List.getElem?_toArray, List.getElem?_append_left (by simpa using hi)]
    simp [List.getD_eq_getElem?_getD, hi])
   refine hcon.mono ?_
   rintro e' w' ⟨rfl, rfl⟩
   rw [hdat] at g4
   exact ⟨_, _, G', rfl, rfl, g1, g2, g3, g4, (Below.refl _ _).alloc (Nat.le_refl _) _⟩
def sbF : Nat → List UInt8 → List (List UInt8) → List (List UInt8) × List UInt8 × Bool
 | 0, s, w => (w, s, true)
 | n + 1, s, w => if (Lib.cut s [32]).2.2 = false ∨ (Lib.cut s [32]).1 = [] then ([], [], false) else sbF n (Lib.cut s [32]).2.1 (w ++ [(Lib.cut s [32]).1])
theorem cut_le2 (t p : List UInt8) : (Lib.cut t p).1.length ≤ t.length ∧ (Lib.cut t p).2.1.length ≤ t.length := by
 unfold Lib.cut
 split
 · simp; omega
 · simp
theorem lz82 (s : List UInt8) (n : Nat) (hs : s.length ≤ 2^30) (hn : n ≤ 2^20) : FSpec Tryz.prog 82 [.d (.str s), .d (.int .i64 n)] kx (fun x r => x = .tup [.d (strs (sbF n s []).1), .d (.str (sbF n s []).2.1), .d (.bool (sbF n s []).2.2)] ∧ r = kx) := by
 generalize hR : sbF n s [] = R
 refine spec_of hT (C := []) Tryz.func82 rfl Tryz.call82 rfl rfl rfl ?_
 conv => whnf
 refine LoopX.rule hT (C := []) (ι := Nat × List UInt8 × List (List UInt8)) (fun (i, t, w) => (sbF (n - i) t w = R ∧ i ≤ n) ∧ t.length ≤ s.length ∧ w.length = i)
  (fun (i, t, w) => mkSt [(0, .d (.str t)), (7, .buf 7), (11, .d (.int .i64 n)), (12, .d (.int .i64 i))] [(1000009, KX), (7, seqB 9 1 sF [] w)])
  (fun (i, _, _) => n - i) (0, s, []) ⟨⟨hR, Nat.zero_le _⟩, Nat.le_refl _, rfl⟩ ?_ ?_
 · exact (Entails.nil 7 7 9 1 (rowF sF [] []) rfl rfl (by decide)).trans (by (refine Entails.mk' [(1000009, 1000009), (7, 7)] rfl rfl ?_ ?_ <;> repeat' (first | exact True.intro | exact lr | exact rr | exact SV.le_int (by omega) | exact SV.le_any _ | refine And.intro ?_ ?_)); done)
 rintro ⟨i, t, w⟩ ⟨⟨p1, p2⟩, p3, p4⟩
 have p1 : sbF (n - i) t w = R := p1
 have p2 : i ≤ n := p2
 have p3 : t.length ≤ s.length := p3
 have p4 : w.length = i := p4
 have hc := cut_le2 t [32]
 conv => whnf
 repeat' (first | (refine CallX.kn (zCut t [32] (by omega)) rfl rfl rfl rfl ?_; conv => whnf) | (refine br_intro ?_ ?_ <;> intro hb <;> (try simp only [brs] at hb) <;> conv => whnf) | omega | (refine And.intro ?_ ?_; ((try dsimp only); first | omega | (refine szA rfl ?_; omega) | (refine szB rfl ?_; omega) | (unfold inI64; omega) | exact rfl | (simp only [List.toList_toArray, List.length_cons, List.length_nil]; omega) | (simp only [lns] at *; omega) | decide | (unfold inI64; decide)); conv => whnf) | decide | assumption)
 · obtain ⟨m, hm⟩ : ∃ m, n - i = m + 1 := ⟨n - i - 1, by omega⟩
   obtain rfl : R = ([], [], false) := by rw [← p1, hm]; simp [sbF, hb]
   refine .weak _ ?_
   conv => whnf
   exact ⟨.tup [.d (strs []), .d (.str []), .d (.bool false)], kx, SV.le_tup ⟨SV.le_nilS, lr, lr, trivial⟩, ⟨rfl, rfl⟩, rr, trivial⟩
 · obtain ⟨m, hm⟩ : ∃ m, n - i = m + 1 := ⟨n - i - 1, by omega⟩
   obtain rfl : R = ([], [], false) := by rw [← p1, hm]; simp [sbF, hb]
   refine .weak _ ?_
   conv => whnf
   exact ⟨.tup [.d (strs []), .d (.str []), .d (.bool false)], kx, SV.le_tup ⟨SV.le_nilS, lr, lr, trivial⟩, ⟨rfl, rfl⟩, rr, trivial⟩
 · rename_i hb1
   have hm : n - i = n - (i + 1) + 1 := by omega
   refine ⟨(i + 1, (Lib.cut t [32]).2.1, w ++ [(Lib.cut t [32]).1]), ⟨⟨?_, by omega⟩, ?_, ?_⟩, by show n - (i + 1) < n - i; omega, (by (refine Entails.mk' [(1000009, 1000009), (7, 29)] rfl rfl ?_ ?_ <;> repeat' (first | exact True.intro | exact lr | exact rr | (exact Res.le_snocF rfl) | exact SV.le_int (by omega) | exact SV.le_any _ | refine And.intro ?_ ?_)); done)⟩
   · show sbF (n - (i + 1)) _ _ = R
     rw [← p1, hm]; simp [sbF, hb, hb1]
   · show (Lib.cut t [32]).2.1.length ≤ s.length; omega
   · show (w ++ [(Lib.cut t [32]).1]).length = i + 1; simp [p4]
 · obtain rfl : R = (w, t, true) := by rw [← p1, show n - i = 0 by omega]; rfl
   refine .freeze _ 7 9 1 _ _ rfl (.weak _ ?_)
   (conv => whnf)
   exact ⟨.tup [.d (strs w), .d (.str t), .d (.bool true)], kx, lr, ⟨rfl, rfl⟩, rr, trivial⟩
theorem sb_split : ∀ (k : Nat) (s : List UInt8) (w : List (List UInt8)),
 (((Lib.splitK [32] 0 k s).length = k + 1 ∧ [] ∉ Lib.splitK [32] 0 k s) ↔ ((sbF k s w).2.2 = true ∧ (sbF k s w).2.1 ≠ [])) ∧
 ((sbF k s w).2.2 = true → w ++ Lib.splitK [32] 0 k s = (sbF k s w).1 ++ [(sbF k s w).2.1] ∧ (sbF k s w).1.length = w.length + k) := by
 intro k
 induction k with
 | zero =>
   intro s w
   simp only [Lib.splitK, sbF]
   refine ⟨⟨fun h => ⟨trivial, fun e => h.2 (by rw [e]; simp)⟩, fun h => ⟨rfl, fun q => h.2 (by simp at q; exact q)⟩⟩, fun _ => ⟨trivial, rfl⟩⟩
 | succ k ih =>
   intro s w
   have hge := Lib.index_ge s [32]
   unfold Lib.splitK sbF Lib.cut
   by_cases h0 : 0 ≤ Lib.index s [32]
   · have h1 : ¬ (Lib.index s [32] == -1) = true := by simp; omega
     rw [if_neg h1, if_pos h0]
     simp only [List.length_singleton, Nat.add_zero]
     obtain ⟨i1, i2⟩ := ih (s.drop ((Lib.index s [32]).toNat + 1)) (w ++ [s.take (Lib.index s [32]).toNat])
     by_cases hx : s.take (Lib.index s [32]).toNat = []
     · rw [if_pos (Or.inr hx), hx]
       simp
     · rw [if_neg (by simp [hx])]
       constructor
       · rw [← i1]
         simp only [List.length_cons, List.mem_cons, not_or]
         constructor
         · rintro ⟨a, _, b⟩; exact ⟨by omega, b⟩
         · rintro ⟨a, b⟩; exact ⟨by omega, fun q => hx q.symm, b⟩
       · intro h
         obtain ⟨j1, j2⟩ := i2 h
         refine ⟨?_, by rw [j2]; simp; omega⟩
         rw [← j1]; simp
   · have h1 : (Lib.index s [32] == -1) = true := by simp; omega
     rw [if_pos h1, if_neg h0]
     simp
theorem splitK_len (k : Nat) : ∀ (s : List UInt8), (Lib.splitK [32] 0 k s).length ≤ k + 1 ∧ (Lib.splitK [32] 0 k s).length ≤ s.length + 1 := by
 induction k with
 | zero => intro s; simp [Lib.splitK]
 | succ k ih =>
   intro s
   unfold Lib.splitK
   split
   · simp
   · rename_i h
     have h1 := Lib.drop_shorter (by decide) h
     obtain ⟨a, b⟩ := ih (s.drop ((Lib.index s [32]).toNat + [32].length))
     exact ⟨by rw [List.length_cons]; omega, by rw [List.length_cons]; omega⟩
def fourOk (line : List UInt8) : Bool := decide ((Lib.splitN line [32] 4).length = 4) && wrdsOk (Lib.splitN line [32] 4)
theorem four_sb (line : List UInt8) : fourOk line = ((sbF 3 line []).2.2 && !decide ((sbF 3 line []).2.1 = [])) ∧ (fourOk line = true → Lib.splitN line [32] 4 = (sbF 3 line []).1 ++ [(sbF 3 line []).2.1] ∧ (sbF 3 line []).1.length = 3) := by
 obtain ⟨h1, h2⟩ := sb_split 3 line []
 have hl3 := splitK_len 3 line
 by_cases hn : 3 ≤ line.length
 · have e : Lib.splitN line [32] 4 = Lib.splitK [32] 0 3 line := by
    unfold Lib.splitN; rw [show min 4 (line.length + 1) - 1 = 3 by omega]
   unfold fourOk wrdsOk
   rw [e]
   constructor
   · rw [Bool.eq_iff_iff]
     simp only [Bool.and_eq_true, decide_eq_true_eq, Bool.not_eq_true', decide_eq_false_iff_not]
     exact h1
   · intro h
     simp only [Bool.and_eq_true, decide_eq_true_eq, Bool.not_eq_true', decide_eq_false_iff_not] at h
     have := h2 (h1.1 h).1
     simp only [List.nil_append, List.length_nil] at this
     exact ⟨this.1, by omega⟩
 · have hk := splitK_len (min 4 (line.length + 1) - 1) line
   have hf : fourOk line = false := by
    unfold fourOk Lib.splitN
    have : decide ((Lib.splitK [32] 0 (min 4 (line.length + 1) - 1) line).length = 4) = false := by simp; omega
    rw [this, Bool.false_and]
   rw [hf]
   refine ⟨?_, fun h => by cases h⟩
   rw [eq_comm, Bool.eq_false_iff]
   intro h
   simp only [Bool.and_eq_true, Bool.not_eq_true', decide_eq_false_iff_not] at h
   have := (h1.2 h).1
   omega
def oXEnI76_4 : List (Nat × List Nat) := [(0, []), (1, []), (2, []), (3, [0, 1, 2]), (4, [0, 1, 2]), (5, [0, 1, 2]), (6, []), (7, []), (8, []), (9, []), (10, [9]), (11, [10]), (12, [])]
def oXEnI76_6 : List (Nat × List Nat) := [(0, []), (1, [0]), (2, [0]), (3, [0]), (4, [0, 1, 2, 3]), (5, [0, 1, 2, 3]), (6, [0, 1, 2, 3]), (7, [0, 1, 2, 3, 4, 5, 6]), (8, [0, 1, 2, 3, 4, 5, 6]), (9, [0, 1, 2, 3, 4, 5, 6]), (10, [0, 1, 2, 3, 4, 5, 6, 7, 8, 9]), (11, [0, 1, 2, 3, 4, 5, 6, 7, 8, 9]), (12, [0, 1, 2, 3, 4, 5, 6, 7, 8, 9]), (13, [0]), (14, [0]), (15, []), (16, [])]
def oXEnI81_4 : List (Nat × List Nat) := [(0, []), (1, []), (2, []), (3, [0, 1, 2]), (4, [0, 1, 2]), (5, [0, 1, 2]), (6, []), (7, []), (8, []), (9, []), (10, [9]), (11, [10]), (12, [])]
def oXEnI81_6 : List (Nat × List Nat) := [(0, []), (1, [0]), (2, [0]), (3, [0]), (4, [0, 1, 2, 3]), (5, [0, 1, 2, 3]), (6, [0, 1, 2, 3]), (7, [0, 1, 2, 3, 4, 5, 6]), (8, [0, 1, 2, 3, 4, 5, 6]), (9, [0, 1, 2, 3, 4, 5, 6]), (10, [0, 1, 2, 3, 4, 5, 6, 7, 8, 9]), (11, [0]), (12, [0]), (13, []), (14, [])]
def tkEnt (line : List UInt8) (l : List Ent) : Bool × List Ent :=
 bif fourOk line && [(Lib.splitN line [32] 4).getD 0 [], (Lib.splitN line [32] 4).getD 2 []].all numOk then
  (true, l ++ [⟨numN ((Lib.splitN line [32] 4).getD 0 []), (Lib.splitN line [32] 4).getD 1 [], numN ((Lib.splitN line [32] 4).getD 2 []), (Lib.splitN line [32] 4).getD 3 []⟩]) else (false, l)
theorem splitN_mem {s : List UInt8} {k : Nat} {x : List UInt8} (h : x ∈ Lib.splitN s [32] k) : x.length ≤ s.length := by
 have key : ∀ (k : Nat) (s : List UInt8), ∀ x ∈ Lib.splitK [32] 0 k s, x.length ≤ s.length := by
  intro k
  induction k with
  | zero => intro s x hx; simp [Lib.splitK] at hx; subst hx; exact Nat.le_refl _
  | succ k ih =>
    intro s x hx
    unfold Lib.splitK at hx
    split at hx
    · simp at hx; subst hx; exact Nat.le_refl _
    · rcases List.mem_cons.1 hx with q | q
      · subst q; simp; omega
      · have := ih _ x q; simp at this; omega
 exact key _ s x h
theorem splitN_getD (line : List UInt8) (i : Nat) : ((Lib.splitN line [32] 4).getD i []).length ≤ line.length := by
 rcases Nat.lt_or_ge i (Lib.splitN line [32] 4).length with q | q
 · exact splitN_mem (getD_mem (x := []) q)
 · rw [List.getD_eq_getElem?_getD, List.getElem?_eq_none q]; simp
theorem lz76 (line : List UInt8) (l : List Ent) (h1 : line.length ≤ 2^20) (h2 : l.length ≤ 2^21) :
 FSpec Tryz.prog 76 [.d (.str line), .ptr 1000005 0] [(1000009, KX), (1000005, capC 26 1000003), (1000003, enB l)] (fun x r => x = .d (.bool (tkEnt line l).1) ∧ r = [(1000009, KX), (1000005, capC 26 46), (46, enB (tkEnt line l).2)]) := by
 have hg := splitN_getD line
 have hS := zSplitN line [32] 4 (by omega) (by decide) (by decide) (by decide)
 have hM : (Lib.splitN line [32] 4).length ≤ 4 := by
  have := (splitK_len (min 4 (line.length + 1) - 1) line).1
  unfold Lib.splitN; omega
 have hC := lz78 (Lib.splitN line [32] 4) (by omega) []
 have hN := lz79 [(Lib.splitN line [32] 4).getD 0 [], (Lib.splitN line [32] 4).getD 2 []] (by simp) (by intro x hx; simp only [List.mem_cons, List.not_mem_nil, or_false] at hx; rcases hx with rfl | rfl <;> exact Nat.le_trans (hg _) (by omega))
 unfold tkEnt fourOk wrdsOk
 generalize Lib.splitN line [32] 4 = W at *
 cases hA : [W.getD 0 [], W.getD 2 []].all numOk with
 | false =>
   rw [hA] at hN
   rw [Bool.and_false, cond_false]
   refine spec_of hT (C := []) Tryz.func76 rfl Tryz.call76 rfl rfl rfl ?_
   conv => whnf
   repeat' (first | (refine CallX.kn hS rfl rfl rfl rfl ?_; conv => whnf) | (refine CallX.exact (hC) rfl rfl ?_; rotate_right; conv => whnf) | (refine CallX.look hN [(1000009, 1000009)] rfl ⟨SV.le_lit rfl rfl, trivial⟩ ⟨⟨_, rfl, rfl⟩, trivial⟩ rfl rfl rfl ?_; conv => whnf) | (refine br_intro ?_ ?_ <;> intro hb <;> (try simp only [brs] at hb) <;> conv => whnf) | (refine RegX.rule (id := 4) hT rfl [] oXEnI76_4 (by decide +kernel) ?_; conv => whnf) | (refine RegX.rule (id := 6) hT rfl [] oXEnI76_6 (by decide +kernel) ?_; conv => whnf) | omega | (refine And.intro ?_ ?_; ((try dsimp only); first | omega | (refine szA rfl ?_; omega) | (refine szB rfl ?_; omega) | (unfold inI64; omega) | exact rfl | (simp only [List.toList_toArray, List.length_cons, List.length_nil]; omega) | (simp only [lns] at *; omega) | decide | (unfold inI64; decide)); conv => whnf) | decide | assumption)
   all_goals
    refine .ent _ (mkSt [(3, .d (.bool false))] [(1000009, KX), (1000005, capC 26 46), (46, enB l)]) (by (refine Entails.mk' [(1000009, 1000009), (1000005, 1000005), (46, 1000003)] rfl rfl ?_ ?_ <;> repeat' (first | exact True.intro | exact lr | exact rr | exact SV.le_int (by omega) | exact SV.le_any _ | refine And.intro ?_ ?_)); done) ?_
    refine .ret _ ?_
    conv => whnf
    exact ⟨[(1000009, KX), (1000005, capC 26 46), (46, enB l)], ⟨rfl, rfl⟩, rr, rr, rr, trivial⟩
 | true =>
   rw [hA] at hN
   rw [Bool.and_true]
   replace hN : FSpec Tryz.prog 79 [.d (strs [W.getD 0 [], W.getD 2 []])] kx (fun x r => x = .tup [.d (ints [numN (W.getD 0 []), numN (W.getD 2 [])]), .d (.bool true)] ∧ r = kx) := hN
   refine spec_of hT (C := []) Tryz.func76 rfl Tryz.call76 rfl rfl rfl ?_
   conv => whnf
   repeat' (first | (refine CallX.kn hS rfl rfl rfl rfl ?_; conv => whnf) | (refine CallX.exact (hC) rfl rfl ?_; rotate_right; conv => whnf) | (refine CallX.look hN [(1000009, 1000009)] rfl ⟨SV.le_lit rfl rfl, trivial⟩ ⟨⟨_, rfl, rfl⟩, trivial⟩ rfl rfl rfl ?_; conv => whnf) | (refine br_intro ?_ ?_ <;> intro hb <;> (try simp only [brs] at hb) <;> conv => whnf) | (refine RegX.rule (id := 4) hT rfl [] oXEnI76_4 (by decide +kernel) ?_; conv => whnf) | (refine RegX.rule (id := 6) hT rfl [] oXEnI76_6 (by decide +kernel) ?_; conv => whnf) | omega | (refine And.intro ?_ ?_; ((try dsimp only); first | omega | (refine szA rfl ?_; omega) | (refine szB rfl ?_; omega) | (unfold inI64; omega) | exact rfl | (simp only [List.toList_toArray, List.length_cons, List.length_nil]; omega) | (simp only [lns] at *; omega) | decide | (unfold inI64; decide)); conv => whnf) | decide | assumption)
   · have hb' : decide (W.length = 4) = false := by simp; omega
     rw [hb', Bool.false_and, cond_false]
     refine .ent _ (mkSt [(3, .d (.bool false))] [(1000009, KX), (1000005, capC 26 46), (46, enB l)]) (by (refine Entails.mk' [(1000009, 1000009), (1000005, 1000005), (46, 1000003)] rfl rfl ?_ ?_ <;> repeat' (first | exact True.intro | exact lr | exact rr | exact SV.le_int (by omega) | exact SV.le_any _ | refine And.intro ?_ ?_)); done) ?_
     refine .ret _ ?_
     conv => whnf
     exact ⟨[(1000009, KX), (1000005, capC 26 46), (46, enB l)], ⟨rfl, rfl⟩, rr, rr, rr, trivial⟩
   · have hb' : decide (W.length = 4) = true := by simp; omega
     have hb2 : decide ([] ∈ W) = true := by simpa using hb
     rw [hb', hb2, Bool.true_and, Bool.not_true, cond_false]
     refine .ent _ (mkSt [(3, .d (.bool false))] [(1000009, KX), (1000005, capC 26 46), (46, enB l)]) (by (refine Entails.mk' [(1000009, 1000009), (1000005, 1000005), (46, 1000003)] rfl rfl ?_ ?_ <;> repeat' (first | exact True.intro | exact lr | exact rr | exact SV.le_int (by omega) | exact SV.le_any _ | refine And.intro ?_ ?_)); done) ?_
     refine .ret _ ?_
     conv => whnf
     exact ⟨[(1000009, KX), (1000005, capC 26 46), (46, enB l)], ⟨rfl, rfl⟩, rr, rr, rr, trivial⟩
   · have hb' : decide (W.length = 4) = true := by simp; omega
     have hb2 : decide ([] ∈ W) = false := by simpa using hb
     rw [hb', hb2, Bool.true_and, Bool.not_false, cond_true]
     refine .ent _ (mkSt [(3, .d (.bool true))] [(1000009, KX), (1000005, capC 26 46), (46, enB (l ++ [⟨numN (W.getD 0 []), W.getD 1 [], numN (W.getD 2 []), W.getD 3 []⟩]))]) (by (refine Entails.mk' [(1000009, 1000009), (1000005, 1000005), (46, 43)] rfl rfl ?_ ?_ <;> repeat' (first | exact True.intro | exact lr | exact rr | (exact Res.le_snocF rfl) | exact SV.le_int (by omega) | exact SV.le_any _ | refine And.intro ?_ ?_)); done) ?_
     refine .ret _ ?_
     conv => whnf
     exact ⟨[(1000009, KX), (1000005, capC 26 46), (46, enB _)], ⟨rfl, rfl⟩, rr, rr, rr, trivial⟩
theorem three {W : List (List UInt8)} (h : W.length = 3) : W = [W.getD 0 [], W.getD 1 [], W.getD 2 []] := by
 match W, h with
 | [a, b, c], _ => rfl
theorem lz81 (line : List UInt8) (l : List Ent) (h1 : line.length ≤ 2^20) (h2 : l.length ≤ 2^21) :
 FSpec Tryz.prog 81 [.d (.str line), .ptr 1000005 0] [(1000009, KX), (1000005, capC 26 1000003), (1000003, enB l)] (fun x r => x = .d (.bool (tkEnt line l).1) ∧ r = [(1000009, KX), (1000005, capC 26 46), (46, enB (tkEnt line l).2)]) := by
 have hg := splitN_getD line
 have hS := lz82 line 3 (by omega) (by decide)
 obtain ⟨hF, hW⟩ := four_sb line
 have hN := lz83 [(Lib.splitN line [32] 4).getD 0 [], (Lib.splitN line [32] 4).getD 2 []] (by simp) (by intro x hx; simp only [List.mem_cons, List.not_mem_nil, or_false] at hx; rcases hx with rfl | rfl <;> exact Nat.le_trans (hg _) (by omega))
 unfold tkEnt
 generalize Lib.splitN line [32] 4 = W at *
 generalize sbF 3 line [] = R at *
 obtain ⟨ws, rest, ok⟩ := R
 simp only at hF hW hS
 cases hf : fourOk line with
 | false =>
   rw [hf] at hF
   rw [Bool.false_and, cond_false]
   cases ok with
   | false =>
     refine spec_of hT (C := []) Tryz.func81 rfl Tryz.call81 rfl rfl rfl ?_
     conv => whnf
     repeat' (first | (refine CallX.kn hS rfl rfl rfl rfl ?_; conv => whnf) | (refine br_intro ?_ ?_ <;> intro hb <;> (try simp only [brs] at hb) <;> conv => whnf) | (refine RegX.rule (id := 4) hT rfl [] oXEnI81_4 (by decide +kernel) ?_; conv => whnf) | (refine RegX.rule (id := 6) hT rfl [] oXEnI81_6 (by decide +kernel) ?_; conv => whnf) | omega | (refine And.intro ?_ ?_; ((try dsimp only); first | omega | (refine szA rfl ?_; omega) | (refine szB rfl ?_; omega) | (unfold inI64; omega) | exact rfl | (simp only [List.toList_toArray, List.length_cons, List.length_nil]; omega) | (simp only [lns] at *; omega) | decide | (unfold inI64; decide)); conv => whnf) | decide | assumption)
     refine .ent _ (mkSt [(3, .d (.bool false))] [(1000009, KX), (1000005, capC 26 46), (46, enB l)]) (by (refine Entails.mk' [(1000009, 1000009), (1000005, 1000005), (46, 1000003)] rfl rfl ?_ ?_ <;> repeat' (first | exact True.intro | exact lr | exact rr | exact SV.le_int (by omega) | exact SV.le_any _ | refine And.intro ?_ ?_)); done) ?_
     refine .ret _ ?_
     conv => whnf
     exact ⟨[(1000009, KX), (1000005, capC 26 46), (46, enB l)], ⟨rfl, rfl⟩, rr, rr, rr, trivial⟩
   | true =>
     obtain rfl : rest = [] := by simpa using hF
     refine spec_of hT (C := []) Tryz.func81 rfl Tryz.call81 rfl rfl rfl ?_
     conv => whnf
     repeat' (first | (refine CallX.kn hS rfl rfl rfl rfl ?_; conv => whnf) | (refine br_intro ?_ ?_ <;> intro hb <;> (try simp only [brs] at hb) <;> conv => whnf) | (refine RegX.rule (id := 4) hT rfl [] oXEnI81_4 (by decide +kernel) ?_; conv => whnf) | (refine RegX.rule (id := 6) hT rfl [] oXEnI81_6 (by decide +kernel) ?_; conv => whnf) | omega | (refine And.intro ?_ ?_; ((try dsimp only); first | omega | (refine szA rfl ?_; omega) | (refine szB rfl ?_; omega) | (unfold inI64; omega) | exact rfl | (simp only [List.toList_toArray, List.length_cons, List.length_nil]; omega) | (simp only [lns] at *; omega) | decide | (unfold inI64; decide)); conv => whnf) | decide | assumption)
     refine .ent _ (mkSt [(3, .d (.bool false))] [(1000009, KX), (1000005, capC 26 46), (46, enB l)]) (by (refine Entails.mk' [(1000009, 1000009), (1000005, 1000005), (46, 1000003)] rfl rfl ?_ ?_ <;> repeat' (first | exact True.intro | exact lr | exact rr | exact SV.le_int (by omega) | exact SV.le_any _ | refine And.intro ?_ ?_)); done) ?_
     refine .ret _ ?_
     conv => whnf
     exact ⟨[(1000009, KX), (1000005, capC 26 46), (46, enB l)], ⟨rfl, rfl⟩, rr, rr, rr, trivial⟩
 | true =>
   rw [hf] at hF
   obtain ⟨e1, e2⟩ := hW hf
   rw [eq_comm, Bool.and_eq_true] at hF
   obtain ⟨rfl, hr⟩ := hF
   have hr : ¬ rest = [] := by simpa using hr
   rw [three e2] at hS e1
   generalize ws.getD 0 [] = w0 at *
   generalize ws.getD 1 [] = w1 at *
   generalize ws.getD 2 [] = w2 at *
   subst e1
   rw [Bool.true_and]
   replace hN : FSpec Tryz.prog 83 [.d (strs [w0, w2])] kx (fun x r => x = .tup [.d (bif [w0, w2].all numOk then ints [numN w0, numN w2] else .nilsl), .d (.bool ([w0, w2].all numOk))] ∧ r = kx) := hN
   show FSpec Tryz.prog 81 _ _ (fun x r => x = .d (.bool (bif [w0, w2].all numOk then (true, l ++ [(⟨numN w0, w1, numN w2, rest⟩ : Ent)]) else (false, l)).1) ∧ r = [(1000009, KX), (1000005, capC 26 46), (46, enB (bif [w0, w2].all numOk then (true, l ++ [(⟨numN w0, w1, numN w2, rest⟩ : Ent)]) else (false, l)).2)])
   cases hA : [w0, w2].all numOk with
   | false =>
     rw [hA] at hN
     rw [cond_false]
     refine spec_of hT (C := []) Tryz.func81 rfl Tryz.call81 rfl rfl rfl ?_
     conv => whnf
     repeat' (first | (refine CallX.kn hS rfl rfl rfl rfl ?_; conv => whnf) | (refine CallX.look hN [(1000009, 1000009)] rfl ⟨SV.le_lit rfl rfl, trivial⟩ ⟨⟨_, rfl, rfl⟩, trivial⟩ rfl rfl rfl ?_; conv => whnf) | (refine br_intro ?_ ?_ <;> intro hb <;> (try simp only [brs] at hb) <;> conv => whnf) | (refine RegX.rule (id := 4) hT rfl [] oXEnI81_4 (by decide +kernel) ?_; conv => whnf) | (refine RegX.rule (id := 6) hT rfl [] oXEnI81_6 (by decide +kernel) ?_; conv => whnf) | omega | (refine And.intro ?_ ?_; ((try dsimp only); first | omega | (refine szA rfl ?_; omega) | (refine szB rfl ?_; omega) | (unfold inI64; omega) | exact rfl | (simp only [List.toList_toArray, List.length_cons, List.length_nil]; omega) | (simp only [lns] at *; omega) | decide | (unfold inI64; decide)); conv => whnf) | decide | assumption)
     · exact absurd hb hr
     refine .ent _ (mkSt [(3, .d (.bool false))] [(1000009, KX), (1000005, capC 26 46), (46, enB l)]) (by (refine Entails.mk' [(1000009, 1000009), (1000005, 1000005), (46, 1000003)] rfl rfl ?_ ?_ <;> repeat' (first | exact True.intro | exact lr | exact rr | exact SV.le_int (by omega) | exact SV.le_any _ | refine And.intro ?_ ?_)); done) ?_
     refine .ret _ ?_
     conv => whnf
     exact ⟨[(1000009, KX), (1000005, capC 26 46), (46, enB l)], ⟨rfl, rfl⟩, rr, rr, rr, trivial⟩
   | true =>
     rw [hA] at hN
     rw [cond_true]
     replace hN : FSpec Tryz.prog 83 [.d (strs [w0, w2])] kx (fun x r => x = .tup [.d (ints [numN w0, numN w2]), .d (.bool true)] ∧ r = kx) := hN
     refine spec_of hT (C := []) Tryz.func81 rfl Tryz.call81 rfl rfl rfl ?_
     conv => whnf
     repeat' (first | (refine CallX.kn hS rfl rfl rfl rfl ?_; conv => whnf) | (refine CallX.look hN [(1000009, 1000009)] rfl ⟨SV.le_lit rfl rfl, trivial⟩ ⟨⟨_, rfl, rfl⟩, trivial⟩ rfl rfl rfl ?_; conv => whnf) | (refine br_intro ?_ ?_ <;> intro hb <;> (try simp only [brs] at hb) <;> conv => whnf) | (refine RegX.rule (id := 4) hT rfl [] oXEnI81_4 (by decide +kernel) ?_; conv => whnf) | (refine RegX.rule (id := 6) hT rfl [] oXEnI81_6 (by decide +kernel) ?_; conv => whnf) | omega | (refine And.intro ?_ ?_; ((try dsimp only); first | omega | (refine szA rfl ?_; omega) | (refine szB rfl ?_; omega) | (unfold inI64; omega) | exact rfl | (simp only [List.toList_toArray, List.length_cons, List.length_nil]; omega) | (simp only [lns] at *; omega) | decide | (unfold inI64; decide)); conv => whnf) | decide | assumption)
     · exact absurd hb hr
     refine .ent _ (mkSt [(3, .d (.bool true))] [(1000009, KX), (1000005, capC 26 46), (46, enB (l ++ [⟨numN w0, w1, numN w2, rest⟩]))]) (by (refine Entails.mk' [(1000009, 1000009), (1000005, 1000005), (46, 46)] rfl rfl ?_ ?_ <;> repeat' (first | exact True.intro | exact lr | exact rr | (exact Res.le_snocF rfl) | exact SV.le_int (by omega) | exact SV.le_any _ | refine And.intro ?_ ?_)); done) ?_
     refine .ret _ ?_
     conv => whnf
     exact ⟨[(1000009, KX), (1000005, capC 26 46), (46, enB _)], ⟨rfl, rfl⟩, rr, rr, rr, trivial⟩
theorem tkEnt_len (line : List UInt8) (l : List Ent) : (tkEnt line l).2.length ≤ l.length + 1 := by
 unfold tkEnt
 generalize (fourOk line && [(Lib.splitN line [32] 4).getD 0 [], (Lib.splitN line [32] 4).getD 2 []].all numOk) = c
 cases c <;> simp
theorem tkEnt_ok (line : List UInt8) (l : List Ent) (h1 : line.length ≤ 2^40) (h : ∀ p ∈ l, entK p) : ∀ p ∈ (tkEnt line l).2, entK p := by
 have hmem := splitN_getD line
 unfold tkEnt
 cases hc : (fourOk line && [(Lib.splitN line [32] 4).getD 0 [], (Lib.splitN line [32] 4).getD 2 []].all numOk) with
 | false => exact h
 | true =>
   rw [Bool.and_eq_true] at hc
   have hn : numOk ((Lib.splitN line [32] 4).getD 0 []) = true ∧ numOk ((Lib.splitN line [32] 4).getD 2 []) = true := by simpa using hc.2
   have b1 := numN_bd hn.1
   have b2 := numN_bd hn.2
   intro p hp
   rcases List.mem_append.1 hp with q | q
   · exact h p q
   · rw [List.mem_singleton] at q
     subst q
     have m1 := hmem 1
     have m3 := hmem 3
     exact ⟨⟨by show _ ≤ _; dsimp only; omega, by dsimp only; omega⟩, ⟨by dsimp only; omega, by dsimp only; omega⟩, by dsimp only; omega, by dsimp only; omega⟩
theorem entOk_rd (text : List UInt8) (ht : text.length ≤ 2^20) : entOk (lnsF tkEnt (text.length + 1) 0 text []).2 :=
 ⟨by have := lnsF_len tkEnt_len (text.length + 1) 0 text []; simp only [List.length_nil] at this; omega, lnsF_all (N := 2^40) (fun line l h1 h => tkEnt_ok line l h1 h) _ _ _ _ (by omega) (by simp)⟩
theorem tk76 : Taker 76 26 39 4 enF en0 tkEnt := ⟨tkEnt_len, lz76⟩
theorem tk81 : Taker 81 26 39 4 enF en0 tkEnt := ⟨tkEnt_len, lz81⟩
theorem lz15 (text : List UInt8) (ht : text.length ≤ 2^20) : FSpec Tryz.prog 15 [.d (.str text)] kx (fun x r => x = .tup [.d (seqD 4 enF en0 (redF tkEnt entsE text).1), .d (.int .i64 (redF tkEnt entsE text).2.1), .d (.int .i64 (redF tkEnt entsE text).2.2)] ∧ r = kx) := by
 have hL := lnsNil (by decide) (lz75 tk76 text ht [] (by simp))
 have hlen := lnsF_len (tk := tkEnt) (tk76).1 (text.length + 1) 0 text []
 have hok := entOk_rd text ht
 unfold redF
 generalize lnsF tkEnt (text.length + 1) 0 text [] = R at hL hlen hok ⊢
 obtain ⟨⟨ra, rb⟩, rl⟩ := R
 refine spec_of hT (C := []) Tryz.func15 rfl Tryz.call15 rfl rfl rfl ?_
 conv => whnf
 repeat' (first | (refine CallX.of hL [(1000005, 5), (1000009, 1000009), (40, 41)] rfl ⟨lr, lr, trivial⟩ ⟨rr, rr, trivial⟩ rfl rfl ?_; rintro x rout ⟨rfl, rfl⟩; refine ⟨rfl, ?_⟩; conv => whnf) | (refine CallX.freeze _ _ _ _ 41 39 4 _ _ rfl rfl ?_; refine CallX.pure (lz64 rl hok) ⟨lr, trivial⟩ rfl ?_; conv => whnf) | (refine br_intro ?_ ?_ <;> intro hb <;> (try simp only [brs] at hb) <;> conv => whnf) | omega | (refine And.intro ?_ ?_; ((try dsimp only); first | omega | (refine szA rfl ?_; omega) | (refine szB rfl ?_; omega) | (unfold inI64; omega) | exact rfl | (simp only [List.toList_toArray, List.length_cons, List.length_nil]; omega) | (simp only [lns] at *; omega) | decide | (unfold inI64; decide)); conv => whnf) | decide | assumption)
 · have q : decide (200000 < text.length) = true := by simp; omega
   rw [q, cond_true]
   refine .weak _ ?_
   conv => whnf
   exact ⟨.tup [.d (seqD 4 enF en0 []), .d (.int .i64 0), .d (.int .i64 2)], kx, SV.le_tup ⟨SV.le_nilS, lr, lr, trivial⟩, ⟨rfl, rfl⟩, rr, trivial⟩
 · have q : decide (200000 < text.length) = false := by simp; omega
   simp only [q, hb, cond_false]
   refine .weak _ ?_
   conv => whnf
   exact ⟨.tup [.d (seqD 4 enF en0 []), .d (.int .i64 ra), .d (.int .i64 9)], kx, SV.le_tup ⟨SV.le_nilS, lr, lr, trivial⟩, ⟨rfl, rfl⟩, rr, trivial⟩
 · rename_i hb0 hb1
   have q : decide (200000 < text.length) = false := by simp; omega
   have q2 : decide (entsE rl = 0) = false := by simp [hb]
   simp only [q, q2, hb1, cond_false, cond_true]
   refine .weak _ ?_
   conv => whnf
   exact ⟨.tup [.d (seqD 4 enF en0 []), .d (.int .i64 0), .d (.int .i64 (entsE rl))], kx, SV.le_tup ⟨SV.le_nilS, lr, lr, trivial⟩, ⟨rfl, rfl⟩, rr, trivial⟩
 · rename_i hb0 hb1
   have q : decide (200000 < text.length) = false := by simp; omega
   have q2 : decide (entsE rl = 0) = true := by simp [hb]
   simp only [q, q2, hb1, cond_false, cond_true]
   refine .ret _ ?_
   conv => whnf
   refine ⟨kx, ⟨congrArg SV.tup ?_, rfl⟩, rr, trivial⟩
   repeat' (refine cons_eq ?_ ?_)
   all_goals (conv => lhs; whnf)
   all_goals try (with_reducible rfl)
   all_goals rfl
theorem lz16 (text : List UInt8) (ht : text.length ≤ 2^20) : FSpec Tryz.prog 16 [.d (.str text)] kx (fun x r => x = .tup [.d (seqD 4 enF en0 (redF tkEnt entsE text).1), .d (.int .i64 (redF tkEnt entsE text).2.1), .d (.int .i64 (redF tkEnt entsE text).2.2)] ∧ r = kx) := by
 have hL := lnsNil (by decide) (lz80 tk81 text ht [] (by simp))
 have hlen := lnsF_len (tk := tkEnt) (tk81).1 (text.length + 1) 0 text []
 have hok := entOk_rd text ht
 unfold redF
 generalize lnsF tkEnt (text.length + 1) 0 text [] = R at hL hlen hok ⊢
 obtain ⟨⟨ra, rb⟩, rl⟩ := R
 refine spec_of hT (C := []) Tryz.func16 rfl Tryz.call16 rfl rfl rfl ?_
 conv => whnf
 repeat' (first | (refine CallX.of hL [(1000005, 5), (1000009, 1000009), (40, 41)] rfl ⟨lr, lr, trivial⟩ ⟨rr, rr, trivial⟩ rfl rfl ?_; rintro x rout ⟨rfl, rfl⟩; refine ⟨rfl, ?_⟩; conv => whnf) | (refine CallX.freeze _ _ _ _ 41 39 4 _ _ rfl rfl ?_; refine CallX.pure (lz12 rl hok) ⟨lr, trivial⟩ rfl ?_; conv => whnf) | (refine br_intro ?_ ?_ <;> intro hb <;> (try simp only [brs] at hb) <;> conv => whnf) | omega | (refine And.intro ?_ ?_; ((try dsimp only); first | omega | (refine szA rfl ?_; omega) | (refine szB rfl ?_; omega) | (unfold inI64; omega) | exact rfl | (simp only [List.toList_toArray, List.length_cons, List.length_nil]; omega) | (simp only [lns] at *; omega) | decide | (unfold inI64; decide)); conv => whnf) | decide | assumption)
 · have q : decide (200000 < text.length) = true := by simp; omega
   rw [q, cond_true]
   refine .weak _ ?_
   conv => whnf
   exact ⟨.tup [.d (seqD 4 enF en0 []), .d (.int .i64 0), .d (.int .i64 2)], kx, SV.le_tup ⟨SV.le_nilS, lr, lr, trivial⟩, ⟨rfl, rfl⟩, rr, trivial⟩
 · have q : decide (200000 < text.length) = false := by simp; omega
   simp only [q, hb, cond_false]
   refine .weak _ ?_
   conv => whnf
   exact ⟨.tup [.d (seqD 4 enF en0 []), .d (.int .i64 ra), .d (.int .i64 9)], kx, SV.le_tup ⟨SV.le_nilS, lr, lr, trivial⟩, ⟨rfl, rfl⟩, rr, trivial⟩
 · rename_i hb0 hb1
   have q : decide (200000 < text.length) = false := by simp; omega
   have q2 : decide (entsE rl = 0) = false := by simp [hb]
   simp only [q, q2, hb1, cond_false, cond_true]
   refine .weak _ ?_
   conv => whnf
   exact ⟨.tup [.d (seqD 4 enF en0 []), .d (.int .i64 0), .d (.int .i64 (entsE rl))], kx, SV.le_tup ⟨SV.le_nilS, lr, lr, trivial⟩, ⟨rfl, rfl⟩, rr, trivial⟩
 · rename_i hb0 hb1
   have q : decide (200000 < text.length) = false := by simp; omega
   have q2 : decide (entsE rl = 0) = true := by simp [hb]
   simp only [q, q2, hb1, cond_false, cond_true]
   refine .ret _ ?_
   conv => whnf
   refine ⟨kx, ⟨congrArg SV.tup ?_, rfl⟩, rr, trivial⟩
   repeat' (refine cons_eq ?_ ?_)
   all_goals (conv => lhs; whnf)
   all_goals try (with_reducible rfl)
   all_goals rfl
theorem redF_lenE {text : List UInt8} (ht : text.length ≤ 2^20) : (redF tkEnt entsE text).1.length ≤ 2^40 := by
 have h := (entOk_rd text ht).1
 unfold redF
 cases decide (200000 < text.length) with
 | true => simp
 | false =>
   simp only [cond_false]
   cases (lnsF tkEnt (text.length + 1) 0 text []).1.2 with
   | false => simp
   | true =>
     simp only [cond_true]
     cases decide (entsE (lnsF tkEnt (text.length + 1) 0 text []).2 = 0) with
     | false => simp
     | true => exact h
theorem lz18 : FSpec Tryz.prog 18 [] [] (fun x r => x = .d (.bool true) ∧ r = []) := by
 refine spec_of hT (C := []) Tryz.func18 rfl Tryz.call18 rfl rfl rfl ?_
 conv => whnf
 repeat' (first | (refine CallX.of sMerge1 [] rfl ⟨SV.le_lit (l := [e1]) rfl rfl, SV.le_nilS, trivial⟩ trivial rfl rfl ?_; rintro x rout ⟨rfl, rfl⟩; refine ⟨rfl, ?_⟩; conv => whnf) | (refine br_intro ?_ ?_ <;> intro hb <;> (try simp only [brs] at hb) <;> conv => whnf) | omega | (refine And.intro ?_ ?_; ((try dsimp only); first | omega | (refine szA rfl ?_; omega) | (refine szB rfl ?_; omega) | (unfold inI64; omega) | exact rfl | (simp only [List.toList_toArray, List.length_cons, List.length_nil]; omega) | (simp only [lns] at *; omega) | decide | (unfold inI64; decide)); conv => whnf) | decide | assumption)
 refine .ret _ ?_
 conv => whnf
 refine ⟨[], ⟨?_, rfl⟩, trivial⟩
 conv => lhs; whnf
 rfl
theorem z3 (n : Nat) (L : Nat → Int) (hn : n ≤ maxLen) (hL : ∀ i, -2^63 ≤ L i ∧ L i < 2^63) :
 FSpec Tryz.prog 3 [.d (.ro 1 n fun i => [.int .i64 (L i)])] kx (fun x r => x = .d (.bool true) ∧ r = kx) := by
 have hR : Rok n L := ⟨hn, hL⟩
 refine spec_of hT (C := []) Tryz.func3 rfl Tryz.call3 rfl rfl rfl ?_
 conv => whnf
 repeat' (first | (refine CallX.of (s64 n L hR 0 (by omega) (by omega) 0 6 (by omega) (by omega) (by omega) (by omega)) [(1000000, 15)] rfl ⟨lr, lr, lr, trivial⟩ ⟨rr, trivial⟩ rfl rfl ?_; rintro x rout ⟨⟨u0, hu1, hu2, rfl⟩, ⟨c, c1, c2, rfl⟩⟩; refine ⟨rfl, ?_⟩; conv => whnf) | (refine CallX.of (lz9 n L hR c (by omega) (by omega) u0 (by omega) (by omega)) [(1000000, 15), (1000009, 1000009)] rfl ⟨lr, lr, trivial⟩ ⟨rr, rr, trivial⟩ rfl rfl ?_; rintro x rout ⟨⟨l, hl, rfl⟩, ⟨c, c1, c2, rfl⟩⟩; refine ⟨rfl, ?_⟩; conv => whnf) | (refine br_intro ?_ ?_ <;> intro hb <;> (try simp only [brs] at hb) <;> conv => whnf) | omega | (refine And.intro ?_ ?_; ((try dsimp only); first | omega | (refine szA rfl ?_; omega) | (refine szB rfl ?_; omega) | (unfold inI64; omega) | exact rfl | (simp only [List.toList_toArray, List.length_cons, List.length_nil]; omega) | (simp only [lns] at *; omega) | decide | (unfold inI64; decide)); conv => whnf) | decide | assumption)
 have hu3 : u0.toNat ≤ 6 := by omega
 have hl2 := entG_tx hl (by omega)
 have hl3 := entG_ok hl (by omega)
 have hl4 := txF_leG hl
 have hl5 : u0.toNat * 1100 ≤ 6 * 1100 := Nat.mul_le_mul_right _ hu3
 have C11 := lz11 l hl3 hl2 (by omega)
 have C13 := lz13 l hl2
 have C12 := lz12 l hl3
 have C14 := lz14 n L hR c (by omega) (by omega)
 by_cases E : entsE l = 0
 · rw [if_pos E, E] at C11
   rw [E] at C12
   repeat' (first | (refine CallX.kn C11 rfl rfl rfl rfl ?_; conv => whnf) | (refine CallX.exact (C12) rfl rfl ?_; rotate_right; conv => whnf) | (refine CallX.kn C13 rfl rfl rfl rfl ?_; conv => whnf) | (refine CallX.of C14 [(1000000, 15), (1000009, 1000009)] rfl ⟨lr, trivial⟩ ⟨rr, rr, trivial⟩ rfl rfl ?_; rintro x rout ⟨⟨t, ht, rfl⟩, ⟨c, c1, c2, rfl⟩⟩; refine ⟨rfl, ?_⟩; conv => whnf) | (refine br_intro ?_ ?_ <;> intro hb <;> (try simp only [brs] at hb) <;> conv => whnf) | omega | (refine And.intro ?_ ?_; ((try dsimp only); first | omega | (refine szA rfl ?_; omega) | (refine szB rfl ?_; omega) | (unfold inI64; omega) | exact rfl | (simp only [List.toList_toArray, List.length_cons, List.length_nil]; omega) | (simp only [lns] at *; omega) | decide | (unfold inI64; decide)); conv => whnf) | decide | assumption)
   have hA := redF_lenE (text := t) (by omega)
   have C15 := lz15 t (by omega)
   have C16 := lz16 t (by omega)
   have C17 := lz17 (redF tkEnt entsE t).1 (redF tkEnt entsE t).1 hA
   generalize redF tkEnt entsE t = R at C15 C16 C17
   obtain ⟨ra, rb, rc⟩ := R
   rw [decide_eq_true (rfl : ra = ra)] at C17
   repeat' (first | (refine CallX.kn C15 rfl rfl rfl rfl ?_; conv => whnf) | (refine CallX.kn C16 rfl rfl rfl rfl ?_; conv => whnf) | (refine CallX.exact (C17) rfl rfl ?_; rotate_right; conv => whnf) | (refine CallX.exact (lz18) rfl rfl ?_; rotate_right; conv => whnf) | (refine br_intro ?_ ?_ <;> intro hb <;> (try simp only [brs] at hb) <;> conv => whnf) | omega | (refine And.intro ?_ ?_; ((try dsimp only); first | omega | (refine szA rfl ?_; omega) | (refine szB rfl ?_; omega) | (unfold inI64; omega) | exact rfl | (simp only [List.toList_toArray, List.length_cons, List.length_nil]; omega) | (simp only [lns] at *; omega) | decide | (unfold inI64; decide)); conv => whnf) | decide | assumption)
   refine .ret _ ?_
   conv => whnf
   refine ⟨kx, ⟨?_, rfl⟩, rr, trivial⟩
   conv => lhs; whnf
 · rw [if_neg E] at C11
   generalize entsE l = e at C11 C12 E
   repeat' (first | (refine CallX.kn C11 rfl rfl rfl rfl ?_; conv => whnf) | (refine CallX.exact (C12) rfl rfl ?_; rotate_right; conv => whnf) | (refine CallX.kn C13 rfl rfl rfl rfl ?_; conv => whnf) | (refine CallX.of C14 [(1000000, 15), (1000009, 1000009)] rfl ⟨lr, trivial⟩ ⟨rr, rr, trivial⟩ rfl rfl ?_; rintro x rout ⟨⟨t, ht, rfl⟩, ⟨c, c1, c2, rfl⟩⟩; refine ⟨rfl, ?_⟩; conv => whnf) | (refine br_intro ?_ ?_ <;> intro hb <;> (try simp only [brs] at hb) <;> conv => whnf) | omega | (refine And.intro ?_ ?_; ((try dsimp only); first | omega | (refine szA rfl ?_; omega) | (refine szB rfl ?_; omega) | (unfold inI64; omega) | exact rfl | (simp only [List.toList_toArray, List.length_cons, List.length_nil]; omega) | (simp only [lns] at *; omega) | decide | (unfold inI64; decide)); conv => whnf) | decide | assumption)
   have hA := redF_lenE (text := t) (by omega)
   have C15 := lz15 t (by omega)
   have C16 := lz16 t (by omega)
   have C17 := lz17 (redF tkEnt entsE t).1 (redF tkEnt entsE t).1 hA
   generalize redF tkEnt entsE t = R at C15 C16 C17
   obtain ⟨ra, rb, rc⟩ := R
   rw [decide_eq_true (rfl : ra = ra)] at C17
   repeat' (first | (refine CallX.kn C15 rfl rfl rfl rfl ?_; conv => whnf) | (refine CallX.kn C16 rfl rfl rfl rfl ?_; conv => whnf) | (refine CallX.exact (C17) rfl rfl ?_; rotate_right; conv => whnf) | (refine CallX.exact (lz18) rfl rfl ?_; rotate_right; conv => whnf) | (refine br_intro ?_ ?_ <;> intro hb <;> (try simp only [brs] at hb) <;> conv => whnf) | omega | (refine And.intro ?_ ?_; ((try dsimp only); first | omega | (refine szA rfl ?_; omega) | (refine szB rfl ?_; omega) | (unfold inI64; omega) | exact rfl | (simp only [List.toList_toArray, List.length_cons, List.length_nil]; omega) | (simp only [lns] at *; omega) | decide | (unfold inI64; decide)); conv => whnf) | decide | assumption)
   refine .ret _ ?_
   conv => whnf
   refine ⟨kx, ⟨?_, rfl⟩, rr, trivial⟩
   conv => lhs; whnf
end Go.Proofs.YtgeakdcbpjmkbaaGreatDoor
