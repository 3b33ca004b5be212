/- PlansAreCheapest is proved: for every input the law returns true, and its argument reads afterwards as it read before. Conditions: those of the given row alone. -/
import Derived.Test.YteehenjdddlnnaaGreatDoorPchEngTwo
import Derived.Test.YteehenjdddlnnaaGreatDoorProg
import Derived.Shelf.Strings.SlTrimAscii
set_option linter.unusedVariables false
set_option linter.unusedSimpArgs false
set_option maxRecDepth 20000
namespace Go.Proofs.YteehenjdddlnnaaGreatDoor
open Go Go.Eng
def su (F : Nat → Int) : Nat → Int
 | 0 => 0
 | n + 1 => su F n + F n
theorem su_congr {F H : Nat → Int} : ∀ {n : Nat}, (∀ k, k < n → F k = H k) → su F n = su H n
 | 0, _ => rfl
 | n + 1, h => by rw [su, su, su_congr (fun k hk => h k (by omega)), h n (by omega)]
theorem su_le {F H : Nat → Int} : ∀ {n : Nat}, (∀ k, k < n → F k ≤ H k) → su F n ≤ su H n
 | 0, _ => Int.le_refl _
 | n + 1, h => by
   have h1 := su_le (n := n) (fun k hk => h k (by omega))
   have h2 := h n (by omega)
   rw [su, su]; omega
theorem su_add (F H : Nat → Int) : ∀ n, su (fun k => F k + H k) n = su F n + su H n
 | 0 => rfl
 | n + 1 => by rw [su, su, su, su_add F H n]; omega
theorem su_sub (F H : Nat → Int) : ∀ n, su (fun k => F k - H k) n = su F n - su H n
 | 0 => rfl
 | n + 1 => by rw [su, su, su, su_sub F H n]; omega
theorem su_mul (a : Int) (F : Nat → Int) : ∀ n, su (fun k => a * F k) n = a * su F n
 | 0 => by simp [su]
 | n + 1 => by rw [su, su, su_mul a F n, Int.mul_add]
theorem su_zero {F : Nat → Int} {n : Nat} (h : ∀ k, k < n → F k = 0) : su F n = 0 := by
 have : ∀ m, su (fun _ => 0) m = 0 := fun m => by
  induction m with
  | zero => rfl
  | succ m ih => rw [su, ih]; rfl
 rw [su_congr (H := fun _ => 0) h, this]
theorem su_nn {F : Nat → Int} {n : Nat} (h : ∀ k, k < n → 0 ≤ F k) : 0 ≤ su F n := by
 have := su_le (F := fun _ => 0) (H := F) (n := n) h
 rwa [su_zero (fun _ _ => rfl)] at this
theorem su_one {a n : Nat} {x : Int} (h : a < n) : su (fun v => if a = v then x else 0) n = x := by
 induction n with
 | zero => omega
 | succ n ih =>
   rw [su]
   by_cases q : a = n
   · subst q
     rw [if_pos rfl, su_zero (fun k hk => if_neg (by omega))]; omega
   · rw [if_neg q, ih (by omega)]; omega
theorem su_swap (F : Nat → Nat → Int) (n : Nat) : ∀ m, su (fun k => su (fun v => F k v) n) m = su (fun v => su (fun k => F k v) m) n
 | 0 => by rw [su]; exact (su_zero fun _ _ => rfl).symm
 | m + 1 => by rw [su, su_swap F n m, ← su_add]; rfl
theorem su_pos {F : Nat → Int} {n a : Nat} (h : ∀ k, k < n → 0 ≤ F k) (ha : a < n) (hp : 0 < F a) : 0 < su F n := by
 induction n with
 | zero => omega
 | succ n ih =>
   rw [su]
   have h1 := su_nn (n := n) (F := F) (fun k hk => h k (by omega))
   have h2 := h n (by omega)
   by_cases q : a = n
   · subst q; omega
   · have := ih (fun k hk => h k (by omega)) (by omega); omega
structure Nw where
 K : Nat
 N : Nat
 fr : Nat → Nat
 to : Nat → Nat
 c : Nat → Int
structure Nw.Ok (G : Nw) : Prop where
 fr : ∀ k, k < G.K → G.fr k < G.N
 to : ∀ k, k < G.K → G.to k < G.N
 c0 : ∀ k, k < G.K → 0 ≤ G.c k
def Nw.net (G : Nw) (f : Nat → Int) (v : Nat) : Int := su (fun k => (if G.fr k = v then f k else 0) - (if G.to k = v then f k else 0)) G.K
def Nw.cost (G : Nw) (f : Nat → Int) : Int := su (fun k => f k * G.c k) G.K
theorem Nw.net_sub (G : Nw) (f g : Nat → Int) (v : Nat) : G.net (fun k => g k - f k) v = G.net g v - G.net f v := by
 unfold Nw.net
 rw [← su_sub]
 refine su_congr fun k _ => ?_
 by_cases a : G.fr k = v <;> by_cases b : G.to k = v <;> simp [a, b] <;> omega
theorem Nw.dual {G : Nw} (h : G.Ok) (d : Nat → Int) (p : Nat → Int) : su (fun k => d k * (p (G.to k) - p (G.fr k))) G.K = - su (fun v => p v * G.net d v) G.N := by
 have e : ∀ v, p v * G.net d v = su (fun k => (if G.fr k = v then p v * d k else 0) - (if G.to k = v then p v * d k else 0)) G.K := fun v => by
  unfold Nw.net
  rw [← su_mul]
  refine su_congr fun k _ => ?_
  by_cases a : G.fr k = v <;> by_cases b : G.to k = v <;> simp [a, b, Int.mul_sub, Int.mul_neg]
 rw [su_congr (fun v _ => e v), su_swap (fun v k => (if G.fr k = v then p v * d k else 0) - (if G.to k = v then p v * d k else 0))]
 have e2 : su (fun k => d k * (p (G.to k) - p (G.fr k))) G.K = su (fun k => 0 - (p (G.fr k) * d k - p (G.to k) * d k)) G.K := su_congr fun k _ => by
  rw [Int.mul_sub, Int.mul_comm (d k), Int.mul_comm (d k)]; omega
 rw [e2, su_sub, su_zero (fun _ _ => rfl), Int.zero_sub]
 congr 1
 refine su_congr fun k hk => ?_
 rw [su_sub]
 have f1 : su (fun v => if G.fr k = v then p v * d k else 0) G.N = p (G.fr k) * d k := by
  rw [su_congr (H := fun v => if G.fr k = v then p (G.fr k) * d k else 0) (fun v _ => by by_cases q : G.fr k = v <;> simp [q])]
  exact su_one (h.fr k hk)
 have f2 : su (fun v => if G.to k = v then p v * d k else 0) G.N = p (G.to k) * d k := by
  rw [su_congr (H := fun v => if G.to k = v then p (G.to k) * d k else 0) (fun v _ => by by_cases q : G.to k = v <;> simp [q])]
  exact su_one (h.to k hk)
 rw [f1, f2]
def Nw.Fills (G : Nw) (have_ want : Nat → Int) (g : Nat → Int) : Prop := (∀ k, k < G.K → 0 ≤ g k) ∧ ∀ v, v < G.N → - want v ≤ G.net g v ∧ G.net g v ≤ have_ v - want v
structure Nw.St (G : Nw) (have_ want f left lack : Nat → Int) : Prop where
 f0 : ∀ k, k < G.K → 0 ≤ f k
 left0 : ∀ v, v < G.N → 0 ≤ left v ∧ left v ≤ have_ v
 lack0 : ∀ v, v < G.N → 0 ≤ lack v ∧ lack v ≤ want v
 net : ∀ v, v < G.N → G.net f v = (have_ v - left v) - (want v - lack v)
structure Nw.Pot (G : Nw) (have_ f left p : Nat → Int) : Prop where
 p0 : ∀ v, v < G.N → 0 ≤ p v
 ar : ∀ k, k < G.K → p (G.to k) ≤ p (G.fr k) + G.c k
 tight : ∀ k, k < G.K → 0 < f k → p (G.fr k) + G.c k ≤ p (G.to k)
 left : ∀ v, v < G.N → 0 < left v → p v ≤ 0
theorem Nw.cost_sub (G : Nw) (f g : Nat → Int) : G.cost g - G.cost f = su (fun k => (g k - f k) * G.c k) G.K := by
 unfold Nw.cost
 rw [← su_sub]
 exact su_congr fun k _ => by rw [Int.sub_mul]
theorem Nw.opt {G : Nw} (h : G.Ok) {have_ want f left lack p : Nat → Int} (hs : G.St have_ want f left lack) (hp : G.Pot have_ f left p) (hl : ∀ v, v < G.N → lack v = 0) : G.Fills have_ want f ∧ ∀ g, G.Fills have_ want g → G.cost f ≤ G.cost g := by
 refine ⟨⟨hs.f0, fun v hv => ?_⟩, fun g hg => ?_⟩
 · have := hs.net v hv
   have := hs.left0 v hv
   have := hl v hv
   omega
 · have h1 : su (fun k => (g k - f k) * (p (G.to k) - p (G.fr k))) G.K ≤ su (fun k => (g k - f k) * G.c k) G.K := su_le fun k hk => by
    rcases Int.lt_trichotomy (g k) (f k) with q | q | q
    · have g0 := hg.1 k hk
      have t := hp.tight k hk (by omega)
      have a := hp.ar k hk
      rw [show p (G.to k) - p (G.fr k) = G.c k by omega]; exact Int.le_refl _
    · rw [q]; simp
    · have a := hp.ar k hk
      exact Int.mul_le_mul_of_nonneg_left (by omega) (by omega)
   rw [Nw.dual h (fun k => g k - f k) p, ← G.cost_sub f g] at h1
   have h2 : su (fun v => p v * G.net (fun k => g k - f k) v) G.N ≤ 0 := by
    have := su_le (n := G.N) (F := fun v => p v * G.net (fun k => g k - f k) v) (H := fun _ => 0) (fun v hv => by
     rw [G.net_sub f g v]
     have n1 := hs.net v hv
     have n2 := hg.2 v hv
     have n3 := hl v hv
     have n4 := hs.left0 v hv
     have n5 := hp.p0 v hv
     rcases Int.lt_or_le 0 (left v) with q | q
     · have := hp.left v hv q
       rw [show p v = 0 by omega]; simp
     · exact Int.mul_nonpos_of_nonneg_of_nonpos n5 (by omega))
    rwa [su_zero (fun _ _ => rfl)] at this
   omega
theorem Nw.closed {G : Nw} (h : G.Ok) {have_ want f left lack : Nat → Int} (hs : G.St have_ want f left lack) (U : Nat → Bool) (h1 : ∀ k, k < G.K → U (G.to k) = true → U (G.fr k) = true) (h2 : ∀ k, k < G.K → 0 < f k → U (G.fr k) = true → U (G.to k) = true)
 (h3 : ∀ v, v < G.N → 0 < left v → U v = false) {a : Nat} (ha : a < G.N) (hU : U a = true) (hla : 0 < lack a) (g : Nat → Int) : ¬ G.Fills have_ want g := by
 intro hg
 have hd := Nw.dual h (fun k => g k - f k) (fun v => if U v = true then 1 else 0)
 have e1 : su (fun k => (g k - f k) * ((if U (G.to k) = true then 1 else 0) - (if U (G.fr k) = true then 1 else 0))) G.K ≤ 0 := by
  have := su_le (n := G.K) (F := fun k => (g k - f k) * ((if U (G.to k) = true then 1 else 0) - (if U (G.fr k) = true then 1 else 0))) (H := fun _ => 0) (fun k hk => by
   have g0 := hg.1 k hk
   have f0 := hs.f0 k hk
   have a1 := h1 k hk
   have a2 := h2 k hk
   cases q1 : U (G.to k) <;> cases q2 : U (G.fr k) <;> rw [q1, q2] at a1 a2 <;> simp at a1 a2 ⊢ <;> omega)
  rwa [su_zero (fun _ _ => rfl)] at this
 have e2 : 0 < su (fun v => (if U v = true then 1 else 0) * - G.net (fun k => g k - f k) v) G.N := by
  refine su_pos (a := a) (fun v hv => ?_) ha ?_
  · rw [G.net_sub f g v]
    have n1 := hs.net v hv
    have n2 := hg.2 v hv
    have n3 := hs.lack0 v hv
    have n4 := hs.left0 v hv
    have n5 := h3 v hv
    cases q : U v
    · simp
    · rcases Int.lt_or_le 0 (left v) with w | w
      · have := n5 w; rw [q] at this; cases this
      · simp; omega
  · rw [G.net_sub f g a, hU]
    have n1 := hs.net a ha
    have n2 := hg.2 a ha
    have n4 := hs.left0 a ha
    have n5 := h3 a ha
    rcases Int.lt_or_le 0 (left a) with w | w
    · have := n5 w; rw [hU] at this; cases this
    · simp; omega
 have e3 : su (fun v => (if U v = true then (1 : Int) else 0) * - G.net (fun k => g k - f k) v) G.N = - su (fun v => (if U v = true then 1 else 0) * G.net (fun k => g k - f k) v) G.N := by
  rw [show (- su (fun v => (if U v = true then (1 : Int) else 0) * G.net (fun k => g k - f k) v) G.N) = (-1) * su (fun v => (if U v = true then (1 : Int) else 0) * G.net (fun k => g k - f k) v) G.N by omega, ← su_mul]
  exact su_congr fun v _ => by rw [Int.mul_neg]; omega
 omega
def farD : Int := 1125899906842624
def upd {α : Type} (f : Nat → α) (a : Nat) (x : α) : Nat → α := fun v => if v = a then x else f v
theorem upd_self {α : Type} {f : Nat → α} {a : Nat} {x : α} : upd f a x a = x := if_pos rfl
theorem upd_ne {α : Type} {f : Nat → α} {a v : Nat} {x : α} (h : v ≠ a) : upd f a x v = f v := if_neg h
def Nw.hd (G : Nw) (e : Nat × Bool) : Nat := if e.2 = true then G.fr e.1 else G.to e.1
def Nw.tl (G : Nw) (e : Nat × Bool) : Nat := if e.2 = true then G.to e.1 else G.fr e.1
def Nw.cc (G : Nw) (e : Nat × Bool) : Int := if e.2 = true then - G.c e.1 else G.c e.1
def Nw.Re (G : Nw) (f : Nat → Int) (e : Nat × Bool) : Prop := e.1 < G.K ∧ (e.2 = true → 0 < f e.1)
theorem Nw.hd_lt {G : Nw} (h : G.Ok) {e : Nat × Bool} (he : e.1 < G.K) : G.hd e < G.N ∧ G.tl e < G.N := by
 unfold Nw.hd Nw.tl
 have := h.fr _ he
 have := h.to _ he
 cases e.2 <;> simp <;> omega
theorem Nw.Pot.re {G : Nw} {have_ f left p : Nat → Int} (hp : G.Pot have_ f left p) {e : Nat × Bool} (he : G.Re f e) : p (G.hd e) ≤ p (G.tl e) + G.cc e := by
 obtain ⟨h1, h2⟩ := he
 have a := hp.ar _ h1
 unfold Nw.hd Nw.tl Nw.cc
 cases q : e.2
 · simpa using a
 · have := hp.tight _ h1 (h2 q)
   simp; omega
inductive Nw.Ch (G : Nw) (b : Nat → Option (Nat × Bool)) (Q : Nat × Bool → Prop) : Nat → Nat → Nat → Prop
 | root (v : Nat) (h : b v = none) : Nw.Ch G b Q v 0 v
 | step (v n r : Nat) (e : Nat × Bool) (h : b v = some e) (hq : Q e) (hc : Nw.Ch G b Q (G.tl e) n r) : Nw.Ch G b Q v (n + 1) r
theorem Nw.Ch.uniq {G : Nw} {b : Nat → Option (Nat × Bool)} {Q Q' : Nat × Bool → Prop} {v n r : Nat} (h : G.Ch b Q v n r) : ∀ {m s : Nat}, G.Ch b Q' v m s → n = m ∧ r = s := by
 induction h with
 | root v hv =>
   intro m s h2
   cases h2 with
   | root _ _ => exact ⟨rfl, rfl⟩
   | step _ _ _ e he _ _ => rw [hv] at he; cases he
 | step v n r e he _ _ ih =>
   intro m s h2
   cases h2 with
   | root _ hv => rw [hv] at he; cases he
   | step _ n' _ e' he' _ hc' =>
     rw [he] at he'; cases he'
     obtain ⟨rfl, rfl⟩ := ih hc'
     exact ⟨rfl, rfl⟩
structure Nw.Wy (G : Nw) (f left p dist : Nat → Int) (b : Nat → Option (Nat × Bool)) : Prop where
 d1 : ∀ v, v < G.N → dist v ≤ farD ∧ (dist v < farD → p v ≤ dist v)
 src : ∀ v, v < G.N → 0 < left v → dist v = 0 ∧ b v = none
 root : ∀ v, v < G.N → b v = none → dist v < farD → 0 < left v
 st : ∀ v e, v < G.N → b v = some e → G.Re f e ∧ G.hd e = v ∧ dist (G.tl e) < farD ∧ dist (G.tl e) + G.cc e ≤ dist v ∧ dist v < farD
 rt : ∀ v, v < G.N → dist v < farD → ∃ n r, G.Ch b (fun _ => True) v n r
theorem Nw.Wy.nn {G : Nw} {have_ f left p dist : Nat → Int} {b : Nat → Option (Nat × Bool)} (h : G.Wy f left p dist b) (hp : G.Pot have_ f left p) {v : Nat} (hv : v < G.N) : 0 ≤ dist v ∧ dist v ≤ farD := by
 have h1 := h.d1 v hv
 have h2 := hp.p0 v hv
 refine ⟨?_, h1.1⟩
 rcases Int.lt_or_le (dist v) farD with q | q
 · have := h1.2 q; omega
 · unfold farD at q; omega
theorem Nw.wy_init {G : Nw} {have_ f left p dist : Nat → Int} {b : Nat → Option (Nat × Bool)} (hp : G.Pot have_ f left p) (hd : ∀ v, v < G.N → dist v = if 0 < left v then 0 else farD) (hb : ∀ v, v < G.N → b v = none) : G.Wy f left p dist b := by
 refine ⟨fun v hv => ?_, fun v hv h => ⟨by rw [hd v hv, if_pos h], hb v hv⟩, fun v hv _ h => ?_, fun v e hv h => (by rw [hb v hv] at h; cases h), fun v hv _ => ⟨0, v, .root v (hb v hv)⟩⟩
 · rw [hd v hv]
   by_cases q : 0 < left v
   · rw [if_pos q]
     have := hp.left v hv q
     unfold farD
     omega
   · rw [if_neg q]
     unfold farD
     omega
 · rw [hd v hv] at h
   by_cases q : 0 < left v
   · exact q
   · rw [if_neg q] at h; omega
theorem Nw.ch_avoid {G : Nw} (hG : G.Ok) {have_ f left p dist : Nat → Int} {b : Nat → Option (Nat × Bool)} (hp : G.Pot have_ f left p) (hw : G.Wy f left p dist b) (a : Nat) (x : Option (Nat × Bool)) {Q : Nat × Bool → Prop} {v n r : Nat} (h : G.Ch b Q v n r) : v < G.N → (G.Ch (upd b a x) Q v n r ∧ v ≠ a) ∨ dist a - p a ≤ dist v - p v := by
 induction h with
 | root v hv =>
   intro hvN
   by_cases q : v = a
   · right; rw [q]; exact Int.le_refl _
   · left; exact ⟨.root v (by rw [upd_ne q]; exact hv), q⟩
 | step v n r e he hq _ ih =>
   intro hvN
   by_cases q : v = a
   · right; rw [q]; exact Int.le_refl _
   · obtain ⟨s1, s2, s3, s4, s5⟩ := hw.st v e hvN he
     have h1 := hp.re s1
     rw [s2] at h1
     rcases ih (Nw.hd_lt hG s1.1).2 with w | w
     · left; exact ⟨.step v n r e (by rw [upd_ne q]; exact he) hq w.1, q⟩
     · right; omega
theorem Nw.Wy.relax {G : Nw} (hG : G.Ok) {have_ f left p dist : Nat → Int} {b : Nat → Option (Nat × Bool)} (hp : G.Pot have_ f left p) (hw : G.Wy f left p dist b) {e : Nat × Bool} (he : G.Re f e) (h1 : dist (G.tl e) < farD) (h2 : dist (G.tl e) + G.cc e < dist (G.hd e)) :
 G.Wy f left p (upd dist (G.hd e) (dist (G.tl e) + G.cc e)) (upd b (G.hd e) (some e)) := by
 obtain ⟨hh, ht⟩ := Nw.hd_lt hG he.1
 have hre := hp.re he
 have hdh := hw.d1 _ hh
 have hdt := (hw.d1 _ ht).2 h1
 have hph := hp.p0 _ hh
 have hne : G.tl e ≠ G.hd e := fun q => by rw [q] at h2 hre; omega
 have hle : ∀ v, upd dist (G.hd e) (dist (G.tl e) + G.cc e) v ≤ dist v := fun v => by
  unfold upd; split
  · rename_i q; rw [q]; omega
  · exact Int.le_refl _
 have hch : ∀ {v n r : Nat}, G.Ch b (fun _ => True) v n r → v < G.N → ∃ n' r', G.Ch (upd b (G.hd e) (some e)) (fun _ => True) v n' r' := by
  have hu : ∃ n r, G.Ch (upd b (G.hd e) (some e)) (fun _ => True) (G.tl e) n r := by
   obtain ⟨n, r, hc⟩ := hw.rt _ ht h1
   rcases Nw.ch_avoid hG hp hw (G.hd e) (some e) hc ht with w | w
   · exact ⟨n, r, w.1⟩
   · omega
  intro v n r hc
  induction hc with
  | root v hv =>
    intro hvN
    by_cases q : v = G.hd e
    · obtain ⟨n', r', hc'⟩ := hu
      exact ⟨n' + 1, r', .step v n' r' e (by rw [q, upd_self]) trivial hc'⟩
    · exact ⟨0, v, .root v (by rw [upd_ne q]; exact hv)⟩
  | step v n r e' he' _ _ ih =>
    intro hvN
    by_cases q : v = G.hd e
    · obtain ⟨n', r', hc'⟩ := hu
      exact ⟨n' + 1, r', .step v n' r' e (by rw [q, upd_self]) trivial hc'⟩
    · obtain ⟨n', r', hc'⟩ := ih (Nw.hd_lt hG (hw.st v e' hvN he').1.1).2
      exact ⟨n' + 1, r', .step v n' r' e' (by rw [upd_ne q]; exact he') trivial hc'⟩
 refine ⟨fun v hv => ?_, fun v hv hl => ?_, fun v hv hb hd => ?_, fun v e' hv hb => ?_, fun v hv hd => ?_⟩
 · by_cases q : v = G.hd e
   · rw [q, upd_self]; omega
   · rw [upd_ne q]; exact hw.d1 v hv
 · have hs := hw.src v hv hl
   by_cases q : v = G.hd e
   · rw [q] at hs
     have := hs.1
     omega
   · rw [upd_ne q, upd_ne q]; exact hs
 · by_cases q : v = G.hd e
   · rw [q, upd_self] at hb; cases hb
   · rw [upd_ne q] at hb hd; exact hw.root v hv hb hd
 · by_cases q : v = G.hd e
   · rw [q, upd_self] at hb
     cases hb
     rw [q, upd_self, upd_ne hne]
     exact ⟨he, rfl, h1, Int.le_refl _, by omega⟩
   · rw [upd_ne q] at hb
     obtain ⟨s1, s2, s3, s4, s5⟩ := hw.st v e' hv hb
     rw [upd_ne q]
     exact ⟨s1, s2, Int.lt_of_le_of_lt (hle _) s3, by have := hle (G.tl e'); omega, s5⟩
 · by_cases q : v = G.hd e
   · rw [q]
     by_cases w : dist (G.hd e) < farD
     · obtain ⟨n, r, hc⟩ := hw.rt _ hh w
       exact hch hc hh
     · obtain ⟨n, r, hc⟩ := hw.rt _ ht h1
       obtain ⟨n', r', hc'⟩ := hch hc ht
       exact ⟨n' + 1, r', .step _ n' r' e upd_self trivial hc'⟩
   · rw [upd_ne q] at hd
     obtain ⟨n, r, hc⟩ := hw.rt v hv hd
     exact hch hc hv
def Nw.Fin (G : Nw) (f dist : Nat → Int) : Prop := ∀ e, G.Re f e → dist (G.tl e) < farD → dist (G.hd e) ≤ dist (G.tl e) + G.cc e
theorem Nw.Wy.tight {G : Nw} {f left p dist : Nat → Int} {b : Nat → Option (Nat × Bool)} (hw : G.Wy f left p dist b) (hf : G.Fin f dist) {v : Nat} {e : Nat × Bool} (hv : v < G.N) (he : b v = some e) : dist v = dist (G.tl e) + G.cc e := by
 obtain ⟨s1, s2, s3, s4, s5⟩ := hw.st v e hv he
 have := hf e s1 s3
 rw [s2] at this
 omega
def Nw.cnt (G : Nw) (dist : Nat → Int) : Int := su (fun v => if dist v < farD then 1 else 0) G.N
def Nw.Bd (G : Nw) (C : Int) (dist : Nat → Int) : Prop := ∀ v, v < G.N → dist v < farD → dist v ≤ C * G.cnt dist
theorem su_upd {F : Nat → Int} {n a : Nat} {x : Int} (h : a < n) : su (upd F a x) n = su F n + (x - F a) := by
 have e : su (fun k => upd F a x k - F k) n = su (fun k => if a = k then x - F a else 0) n := su_congr fun k _ => by
  unfold upd
  by_cases q : k = a
  · rw [if_pos q, if_pos q.symm, q]
  · rw [if_neg q, if_neg (fun z => q z.symm)]; omega
 rw [su_one h, su_sub] at e
 omega
theorem Nw.cnt_bd (G : Nw) (dist : Nat → Int) : 0 ≤ G.cnt dist ∧ G.cnt dist ≤ G.N := by
 have h1 : 0 ≤ G.cnt dist := su_nn fun v _ => by split <;> omega
 have h2 : ∀ n, su (fun v => if dist v < farD then 1 else 0) n ≤ (n : Int) := fun n => by
  induction n with
  | zero => exact Int.le_refl _
  | succ n ih => rw [su]; split <;> (push_cast; omega)
 exact ⟨h1, h2 _⟩
theorem Nw.Bd.relax {G : Nw} {C : Int} {dist : Nat → Int} (hb : G.Bd C dist) (hC : 0 ≤ C) {e : Nat × Bool} (hh : G.hd e < G.N) (ht : G.tl e < G.N) (hc : G.cc e ≤ C) (h1 : dist (G.tl e) < farD) (h2 : dist (G.tl e) + G.cc e < dist (G.hd e)) (h3 : dist (G.hd e) ≤ farD) :
 G.Bd C (upd dist (G.hd e) (dist (G.tl e) + G.cc e)) := by
 have hn : G.cnt (upd dist (G.hd e) (dist (G.tl e) + G.cc e)) = G.cnt dist + (1 - if dist (G.hd e) < farD then 1 else 0) := by
  unfold Nw.cnt
  rw [← su_upd hh]
  refine su_congr fun v _ => ?_
  unfold upd
  by_cases q : v = G.hd e
  · rw [if_pos q, if_pos q, if_pos (by omega)]
  · rw [if_neg q, if_neg q]
 have h0 := hb _ ht h1
 intro v hv hd
 rw [hn]
 by_cases q : dist (G.hd e) < farD
 · rw [if_pos q, Int.sub_self, Int.add_zero]
   have h4 := hb _ hh q
   unfold upd
   split
   · omega
   · rename_i w
     rw [upd_ne w] at hd
     exact hb v hv hd
 · rw [if_neg q, Int.mul_add]
   unfold upd
   split
   · omega
   · rename_i w
     rw [upd_ne w] at hd
     have := hb v hv hd
     omega
theorem Nw.bd_init {G : Nw} {C : Int} (hC : 0 ≤ C) {left dist : Nat → Int} (hd : ∀ v, v < G.N → dist v = if 0 < left v then 0 else farD) : G.Bd C dist := by
 intro v hv h
 rw [hd v hv] at h ⊢
 by_cases q : 0 < left v
 · rw [if_pos q]
   exact Int.mul_nonneg hC (G.cnt_bd _).1
 · rw [if_neg q] at h; omega
theorem Nw.reach {G : Nw} (hG : G.Ok) {C : Int} {f dist : Nat → Int} (hb : G.Bd C dist) (hC : 0 ≤ C) (hN : C * G.N + C < farD) (hc : ∀ k, k < G.K → G.c k ≤ C) (hf : G.Fin f dist) {k : Nat} (hk : k < G.K) (h1 : dist (G.fr k) < farD) : dist (G.to k) < farD ∧ dist (G.to k) ≤ dist (G.fr k) + G.c k := by
 have h2 : dist (G.to k) ≤ dist (G.fr k) + G.c k := hf (k, false) ⟨hk, by simp⟩ h1
 have h3 := hb _ (hG.fr k hk) h1
 have h4 := hc k hk
 have h5 : C * G.cnt dist ≤ C * G.N := Int.mul_le_mul_of_nonneg_left (G.cnt_bd dist).2 hC
 omega
theorem Nw.net_upd (G : Nw) (g : Nat → Int) {k : Nat} (hk : k < G.K) (x : Int) (v : Nat) : G.net (upd g k x) v = G.net g v + (if G.fr k = v then x - g k else 0) - (if G.to k = v then x - g k else 0) := by
 have h := G.net_sub g (upd g k x) v
 have e : G.net (fun i => upd g k x i - g i) v = (if G.fr k = v then x - g k else 0) - (if G.to k = v then x - g k else 0) := by
  unfold Nw.net
  rw [su_congr (H := fun i => if k = i then ((if G.fr k = v then x - g k else 0) - (if G.to k = v then x - g k else 0)) else 0) (fun i _ => ?_), su_one hk]
  by_cases q : i = k
  · rw [if_pos q.symm, q]; simp only [upd_self]
  · rw [if_neg (show ¬ k = i from fun z => q z.symm)]; simp [upd_ne q]
 omega
theorem ite_sw {a v : Nat} {x y : Int} (h : x = y) : (if a = v then x else 0) = (if v = a then y else 0) := by
 subst h
 by_cases q : a = v
 · rw [if_pos q, if_pos q.symm]
 · rw [if_neg q, if_neg (fun z => q z.symm)]
theorem Nw.cost_upd (G : Nw) (g : Nat → Int) {k : Nat} (hk : k < G.K) (x : Int) : G.cost (upd g k x) = G.cost g + (x - g k) * G.c k := by
 have h := G.cost_sub g (upd g k x)
 have e : su (fun i => (upd g k x i - g i) * G.c i) G.K = (x - g k) * G.c k := by
  rw [su_congr (H := fun i => if k = i then (x - g k) * G.c k else 0) (fun i _ => ?_), su_one hk]
  by_cases q : i = k
  · rw [if_pos q.symm, q, upd_self]
  · rw [if_neg (show ¬ k = i from fun z => q z.symm), upd_ne q]; simp
 omega
structure Nw.Bot (G : Nw) (f dist : Nat → Int) (b : Nat → Option (Nat × Bool)) (t : Nat) (lk : Int) (a : Nat) (m : Int) : Prop where
 ch : ∀ m' n' r, m' ≤ m → G.Ch b (fun e => e.2 = true → m' ≤ f e.1) a n' r → ∃ n, G.Ch b (fun e => e.2 = true → m' ≤ f e.1) t n r
 aN : a < G.N
 dn : dist a < farD
 m1 : 1 ≤ m ∧ m ≤ lk
theorem Nw.Bot.step {G : Nw} (hG : G.Ok) {f left p dist : Nat → Int} {b : Nat → Option (Nat × Bool)} (hw : G.Wy f left p dist b) {t a : Nat} {lk m : Int} (h : G.Bot f dist b t lk a m) {e : Nat × Bool} (he : b a = some e) :
 G.Bot f dist b t lk (G.tl e) (if e.2 = true then min m (f e.1) else m) := by
 obtain ⟨s1, s2, s3, s4, s5⟩ := hw.st a e h.aN he
 have hm := h.m1
 have hq := s1.2
 refine ⟨fun m' n' r hm' hc => ?_, (Nw.hd_lt hG s1.1).2, s3, ?_⟩
 · refine h.ch m' (n' + 1) r ?_ (.step a n' r e he (fun w => ?_) hc)
   · split at hm' <;> omega
   · rw [if_pos w] at hm'; omega
 · cases w : e.2
   · simp; omega
   · have := hq w
     simp; omega
theorem Nw.Bot.done {G : Nw} {f dist : Nat → Int} {b : Nat → Option (Nat × Bool)} {t a : Nat} {lk m : Int} (h : G.Bot f dist b t lk a m) (ha : b a = none) {m' : Int} (hm : m' ≤ m) : ∃ n, G.Ch b (fun e => e.2 = true → m' ≤ f e.1) t n a :=
 h.ch m' 0 a hm (.root a ha)
structure Nw.Aug (G : Nw) (f dist : Nat → Int) (b : Nat → Option (Nat × Bool)) (t : Nat) (m : Int) (g : Nat → Int) (a n r : Nat) : Prop where
 ch : G.Ch b (fun e => e.2 = true → m ≤ f e.1) a n r
 aN : a < G.N
 dn : dist a < farD
 fl : ∀ k, k < G.K → f k ≤ g k ∨ ∃ j s, G.Ch b (fun _ => True) (G.fr k) j s ∧ n < j ∧ f k ≤ g k + m ∧ m ≤ f k
 net : ∀ v, G.net g v = G.net f v - (if v = t then m else 0) + (if v = a then m else 0)
 cost : G.cost g = G.cost f + m * (dist t - dist a)
 pos : ∀ k, k < G.K → 0 < g k → 0 < f k ∨ (dist (G.fr k) < farD ∧ dist (G.to k) = dist (G.fr k) + G.c k)
theorem Nw.aug_init {G : Nw} {f dist : Nat → Int} {b : Nat → Option (Nat × Bool)} {t n r : Nat} {m : Int} (hc : G.Ch b (fun e => e.2 = true → m ≤ f e.1) t n r) (ht : t < G.N) (hd : dist t < farD) : G.Aug f dist b t m f t n r :=
 ⟨hc, ht, hd, fun _ _ => .inl (Int.le_refl _), fun v => by omega, by rw [Int.sub_self, Int.mul_zero, Int.add_zero], fun _ _ h => .inl h⟩
theorem Nw.Ch.weak {G : Nw} {b : Nat → Option (Nat × Bool)} {Q : Nat × Bool → Prop} {v n r : Nat} (h : G.Ch b Q v n r) : G.Ch b (fun _ => True) v n r := by
 induction h with
 | root v hv => exact .root v hv
 | step v n r e he _ _ ih => exact .step v n r e he trivial ih
theorem Nw.Aug.step {G : Nw} (hG : G.Ok) {f left p dist : Nat → Int} {b : Nat → Option (Nat × Bool)} (hw : G.Wy f left p dist b) (hf : G.Fin f dist) {t a n r : Nat} {m : Int} (hm : 0 ≤ m) {g : Nat → Int} (h : G.Aug f dist b t m g a n r) {e : Nat × Bool} (he : b a = some e) :
 ∃ n', n = n' + 1 ∧ G.Aug f dist b t m (upd g e.1 (if e.2 = true then g e.1 - m else g e.1 + m)) (G.tl e) n' r := by
 have hch := h.ch
 cases hch with
 | root _ hv => rw [hv] at he; cases he
 | step _ n' _ e' he' hq hc =>
   rw [he] at he'; cases he'
   obtain ⟨s1, s2, s3, s4, s5⟩ := hw.st a e h.aN he
   have htg := hw.tight hf h.aN he
   have hch := h.ch
   refine ⟨n', rfl, hc, (Nw.hd_lt hG s1.1).2, s3, fun k hk => ?_, fun v => ?_, ?_, fun k hk hg => ?_⟩
   · rcases h.fl k hk with w | ⟨j, s, w1, w2, w3, w4⟩
     · by_cases q : k = e.1
       · rw [q, upd_self]
         rw [q] at w
         cases z : e.2
         · left; simp; omega
         · right
           have hz : G.hd e = G.fr e.1 := by unfold Nw.hd; rw [z]; rfl
           rw [s2] at hz
           refine ⟨n' + 1, r, ?_, by omega, by simp; omega, hq z⟩
           rw [← hz]
           exact hch.weak
       · rw [upd_ne q]; exact .inl w
     · right
       refine ⟨j, s, w1, by omega, ?_, w4⟩
       by_cases q : k = e.1
       · rw [q, upd_self]
         rw [q] at w1 w3
         cases z : e.2
         · simp; omega
         · exfalso
           have hz : G.hd e = G.fr e.1 := by unfold Nw.hd; rw [z]; rfl
           rw [s2] at hz
           rw [← hz] at w1
           have := hch.weak.uniq w1
           omega
       · rw [upd_ne q]; exact w3
   · rw [G.net_upd g s1.1, h.net v]
     have hhd : G.hd e = a := s2
     unfold Nw.hd at hhd
     unfold Nw.tl
     cases z : e.2 <;> rw [z] at hhd <;> simp only [if_true, if_false, Bool.false_eq_true] at hhd ⊢
     · have c1 : (if G.to e.1 = v then g e.1 + m - g e.1 else 0) = (if v = a then m else 0) := by rw [hhd]; exact ite_sw (by omega)
       have c2 : (if G.fr e.1 = v then g e.1 + m - g e.1 else 0) = (if v = G.fr e.1 then m else 0) := ite_sw (by omega)
       rw [c1, c2]; omega
     · have c1 : (if G.fr e.1 = v then g e.1 - m - g e.1 else 0) = (if v = a then - m else 0) := by rw [hhd]; exact ite_sw (by omega)
       have c2 : (if G.to e.1 = v then g e.1 - m - g e.1 else 0) = (if v = G.to e.1 then - m else 0) := ite_sw (by omega)
       rw [c1, c2]
       by_cases q : v = a <;> by_cases w : v = G.to e.1 <;> simp only [q, w, if_true, if_false] <;> (try split) <;> omega
   · rw [G.cost_upd g s1.1, h.cost]
     have e1 : (if e.2 = true then g e.1 - m else g e.1 + m) - g e.1 = if e.2 = true then - m else m := by split <;> omega
     rw [e1, htg]
     unfold Nw.cc
     cases z : e.2
     · simp only [if_false, Bool.false_eq_true]
       rw [show dist t - dist (G.tl e) = (dist t - (dist (G.tl e) + G.c e.1)) + G.c e.1 by omega, Int.mul_add]; omega
     · simp only [if_true]
       have e2 : m * (dist t - dist (G.tl e)) = m * (dist t - (dist (G.tl e) + - G.c e.1)) - m * G.c e.1 := by rw [← Int.mul_sub]; congr 1; omega
       rw [e2, Int.neg_mul]; omega
   · by_cases q : k = e.1
     · rw [q, upd_self] at hg
       rw [q]
       cases z : e.2
       · right
         have hz : G.hd e = G.to e.1 := by unfold Nw.hd; rw [z]; rfl
         have ht : G.tl e = G.fr e.1 := by unfold Nw.tl; rw [z]; rfl
         have hcc : G.cc e = G.c e.1 := by unfold Nw.cc; rw [z]; rfl
         rw [← hz, ← ht, s2]
         rw [hcc] at htg
         exact ⟨s3, htg⟩
       · exact .inl (s1.2 z)
     · rw [upd_ne q] at hg
       exact h.pos k hk hg
def nxP (p dist : Nat → Int) (v : Nat) : Int := if dist v < farD then dist v else p v + farD
theorem Nw.next {G : Nw} (hG : G.Ok) {C : Int} (hC : 0 ≤ C) (hN : C * G.N + C < farD) (hcC : ∀ k, k < G.K → G.c k ≤ C) {have_ want f left lack p dist : Nat → Int} {b : Nat → Option (Nat × Bool)} (hs : G.St have_ want f left lack) (hp : G.Pot have_ f left p) (hw : G.Wy f left p dist b) (hb : G.Bd C dist) (hf : G.Fin f dist)
 {t r n : Nat} {m : Int} {g : Nat → Int} (ht : t < G.N) (hm1 : 1 ≤ m) (hml : m ≤ lack t) (hmr : m ≤ left r) (ha : G.Aug f dist b t m g r n r) (hr : b r = none) :
 G.St have_ want g (upd left r (left r - m)) (upd lack t (lack t - m)) ∧ G.Pot have_ g (upd left r (left r - m)) (nxP p dist) ∧ G.cost g = G.cost f + m * dist t := by
 have hrl := hw.root r ha.aN hr ha.dn
 have hr0 := (hw.src r ha.aN hrl).1
 refine ⟨⟨fun k hk => ?_, fun v hv => ?_, fun v hv => ?_, fun v hv => ?_⟩, ⟨fun v hv => ?_, fun k hk => ?_, fun k hk hg => ?_, fun v hv hl => ?_⟩, ?_⟩
 · have := hs.f0 k hk
   rcases ha.fl k hk with w | ⟨_, _, _, _, w3, w4⟩ <;> omega
 · have := hs.left0 v hv
   unfold upd
   split
   · rename_i q; rw [q] at this ⊢; omega
   · exact this
 · have := hs.lack0 v hv
   unfold upd
   split
   · rename_i q; rw [q] at this ⊢; omega
   · exact this
 · rw [ha.net v, hs.net v hv]
   unfold upd
   by_cases q : v = r <;> by_cases w : v = t
   · rw [if_pos q, if_pos w, if_pos q, if_pos w, ← q, ← w]; omega
   · rw [if_pos q, if_neg w, if_pos q, if_neg w, ← q]; omega
   · rw [if_neg q, if_pos w, if_neg q, if_pos w, ← w]; omega
   · rw [if_neg q, if_neg w, if_neg q, if_neg w]; omega
 · have := hw.nn hp hv
   have := hp.p0 v hv
   unfold nxP
   split
   · omega
   · unfold farD; omega
 · have hfr := hG.fr k hk
   have hto := hG.to k hk
   have h1 := hp.ar k hk
   have h2 := hp.p0 _ hfr
   have h3 := hG.c0 k hk
   unfold nxP
   by_cases q : dist (G.fr k) < farD
   · have := Nw.reach hG hb hC hN hcC hf hk q
     rw [if_pos q, if_pos this.1]; exact this.2
   · rw [if_neg q]
     split <;> omega
 · have hfr := hG.fr k hk
   have hto := hG.to k hk
   unfold nxP
   rcases ha.pos k hk hg with w | w
   · have h1 := hp.tight k hk w
     by_cases q : dist (G.to k) < farD
     · have h2 : dist (G.fr k) ≤ dist (G.to k) + - G.c k := hf (k, true) ⟨hk, fun _ => w⟩ q
       have h3 := hG.c0 k hk
       rw [if_pos q, if_pos (by omega)]; omega
     · rw [if_neg q]
       by_cases q2 : dist (G.fr k) < farD
       · exact absurd (Nw.reach hG hb hC hN hcC hf hk q2).1 q
       · rw [if_neg q2]; omega
   · have h2 := (Nw.reach hG hb hC hN hcC hf hk w.1).1
     rw [if_pos w.1, if_pos h2]; omega
 · have hv2 : 0 < left v := by
    unfold upd at hl
    split at hl
    · rename_i q; rw [q]; omega
    · exact hl
   have := (hw.src v hv hv2).1
   unfold nxP
   rw [this, if_pos (by unfold farD; omega)]; exact Int.le_refl _
 · rw [ha.cost, hr0, Int.sub_zero]
theorem Nw.noway {G : Nw} (hG : G.Ok) {C : Int} (hC : 0 ≤ C) (hN : C * G.N + C < farD) (hcC : ∀ k, k < G.K → G.c k ≤ C) {have_ want f left lack p dist : Nat → Int} {b : Nat → Option (Nat × Bool)} (hs : G.St have_ want f left lack) (hw : G.Wy f left p dist b) (hb : G.Bd C dist) (hf : G.Fin f dist)
 {t : Nat} (ht : t < G.N) (hl : 0 < lack t) (hd : farD ≤ dist t) (g : Nat → Int) : ¬ G.Fills have_ want g := by
 refine Nw.closed hG hs (fun v => decide (farD ≤ dist v)) (fun k hk h => ?_) (fun k hk h0 h => ?_) (fun v hv h => ?_) ht (decide_eq_true hd) hl g
 · rw [decide_eq_true_eq] at h ⊢
   rcases Int.lt_or_le (dist (G.fr k)) farD with q | q
   · have := (Nw.reach hG hb hC hN hcC hf hk q).1; omega
   · exact q
 · rw [decide_eq_true_eq] at h ⊢
   rcases Int.lt_or_le (dist (G.to k)) farD with q | q
   · have h2 : dist (G.fr k) ≤ dist (G.to k) + - G.c k := hf (k, true) ⟨hk, fun _ => h0⟩ q
     have h3 := hG.c0 k hk
     omega
   · exact q
 · have := (hw.src v hv h).1
   rw [decide_eq_false_iff_not, this]
   unfold farD; omega
theorem Nw.st_init {G : Nw} {have_ want : Nat → Int} (hh : ∀ v, v < G.N → 0 ≤ have_ v) (hw : ∀ v, v < G.N → 0 ≤ want v) (hG : G.Ok) : G.St have_ want (fun _ => 0) have_ want ∧ G.Pot have_ (fun _ => 0) have_ (fun _ => 0) ∧ G.cost (fun _ => 0) = 0 := by
 refine ⟨⟨fun _ _ => Int.le_refl _, fun v hv => ⟨hh v hv, Int.le_refl _⟩, fun v hv => ⟨hw v hv, Int.le_refl _⟩, fun v _ => ?_⟩, ⟨fun _ _ => Int.le_refl _, fun k hk => by have := hG.c0 k hk; omega, fun _ _ h => absurd h (Int.lt_irrefl _), fun _ _ _ => Int.le_refl _⟩, su_zero fun k _ => Int.zero_mul _⟩
 have : G.net (fun _ => 0) v = 0 := su_zero fun k _ => by simp
 rw [this]; omega
theorem nodup_len : ∀ {L : List Nat} {N : Nat}, L.Nodup → (∀ x ∈ L, x < N) → L.length ≤ N := by
 have key : ∀ {N : Nat} (L : List Nat), L.Nodup → (∀ x ∈ L, x < N) → (L.length : Int) = su (fun v => if v ∈ L then 1 else 0) N := by
  intro N L
  induction L with
  | nil => intro _ _; rw [su_zero (fun k _ => if_neg (by simp))]; rfl
  | cons x L ih =>
    intro hn hl
    rw [List.nodup_cons] at hn
    have h1 := ih hn.2 (fun y hy => hl y (List.mem_cons_of_mem _ hy))
    have h2 : su (fun v => if v ∈ x :: L then 1 else 0) N = su (fun v => (if v ∈ L then (1 : Int) else 0) + (if x = v then 1 else 0)) N := su_congr fun v _ => by
     by_cases q : x = v
     · subst q; simp [hn.1]
     · have : ¬ v = x := fun z => q z.symm
       simp [q, this]
    rw [h2, su_add, su_one (hl x (List.mem_cons_self ..)), ← h1]
    simp
 intro L N hn hl
 have h := key L hn hl
 have h2 : ∀ n, su (fun v => if v ∈ L then 1 else 0) n ≤ (n : Int) := fun n => by
  induction n with
  | zero => exact Int.le_refl _
  | succ n ih => rw [su]; split <;> (push_cast; omega)
 have := h2 N
 omega
theorem Nw.ch_list {G : Nw} {b : Nat → Option (Nat × Bool)} {Q : Nat × Bool → Prop} {N : Nat} (hN : ∀ v e, v < N → b v = some e → G.tl e < N) {v n r : Nat} (h : G.Ch b Q v n r) : v < N → ∃ L : List Nat, L.length = n + 1 ∧ L.Nodup ∧ (∀ x ∈ L, x < N) ∧ ∀ x ∈ L, ∃ j, j ≤ n ∧ G.Ch b Q x j r := by
 induction h with
 | root v hv => intro hvN; exact ⟨[v], rfl, by simp, by simpa using hvN, fun x hx => by rw [List.mem_singleton] at hx; subst hx; exact ⟨0, by omega, .root x hv⟩⟩
 | step v n r e he hq hc ih =>
   intro hvN
   obtain ⟨L, h1, h2, h3, h4⟩ := ih (hN v e hvN he)
   refine ⟨v :: L, by rw [List.length_cons, h1], ?_, fun x hx => ?_, fun x hx => ?_⟩
   · rw [List.nodup_cons]
     refine ⟨fun hm => ?_, h2⟩
     obtain ⟨j, hj, hcj⟩ := h4 v hm
     have := (Nw.Ch.step v n r e he hq hc).uniq hcj
     omega
   · rcases List.mem_cons.1 hx with rfl | q
     · exact hvN
     · exact h3 x q
   · rcases List.mem_cons.1 hx with rfl | q
     · exact ⟨n + 1, by omega, .step x n r e he hq hc⟩
     · obtain ⟨j, hj, hcj⟩ := h4 x q
       exact ⟨j, by omega, hcj⟩
structure Nw.Op (G : Nw) (R : Nat × Bool → Prop) (p : Nat → Int) : Prop where
 lt : ∀ e, R e → e.1 < G.K
 le : ∀ e, R e → p (G.hd e) ≤ p (G.tl e) + G.cc e
structure Nw.Pw (G : Nw) (R : Nat × Bool → Prop) (p : Nat → Int) (P : Int) (dist : Nat → Int) (b : Nat → Option (Nat × Bool)) : Prop where
 low : ∀ v, v < G.N → p v - P ≤ dist v ∧ dist v ≤ 0
 root : ∀ v, v < G.N → b v = none → dist v = 0
 st : ∀ v e, v < G.N → b v = some e → R e ∧ G.hd e = v ∧ dist (G.tl e) + G.cc e ≤ dist v
 rt : ∀ v, v < G.N → ∃ n r, G.Ch b (fun _ => True) v n r
theorem Nw.pw_init {G : Nw} {R : Nat × Bool → Prop} {p : Nat → Int} {P : Int} (h : ∀ v, v < G.N → p v ≤ P) : G.Pw R p P (fun _ => 0) (fun _ => none) :=
 ⟨fun v hv => by have := h v hv; omega, fun _ _ _ => rfl, fun v e _ h => (nomatch h), fun v _ => ⟨0, v, .root v rfl⟩⟩
theorem Nw.pw_avoid {G : Nw} (hG : G.Ok) {R : Nat × Bool → Prop} {p dist : Nat → Int} {P : Int} {b : Nat → Option (Nat × Bool)} (hp : G.Op R p) (hw : G.Pw R p P dist b) (a : Nat) (x : Option (Nat × Bool)) {Q : Nat × Bool → Prop} {v n r : Nat} (h : G.Ch b Q v n r) : v < G.N → (G.Ch (upd b a x) Q v n r ∧ v ≠ a) ∨ dist a - p a ≤ dist v - p v := by
 induction h with
 | root v hv =>
   intro hvN
   by_cases q : v = a
   · right; rw [q]; exact Int.le_refl _
   · left; exact ⟨.root v (by rw [upd_ne q]; exact hv), q⟩
 | step v n r e he hq _ ih =>
   intro hvN
   by_cases q : v = a
   · right; rw [q]; exact Int.le_refl _
   · obtain ⟨s1, s2, s4⟩ := hw.st v e hvN he
     have h1 := hp.le e s1
     rw [s2] at h1
     rcases ih (Nw.hd_lt hG (hp.lt e s1)).2 with w | w
     · left; exact ⟨.step v n r e (by rw [upd_ne q]; exact he) hq w.1, q⟩
     · right; omega
theorem Nw.Pw.relax {G : Nw} (hG : G.Ok) {R : Nat × Bool → Prop} {p dist : Nat → Int} {P : Int} {b : Nat → Option (Nat × Bool)} (hp : G.Op R p) (hw : G.Pw R p P dist b) {e : Nat × Bool} (he : R e) (h2 : dist (G.tl e) + G.cc e < dist (G.hd e)) :
 G.Pw R p P (upd dist (G.hd e) (dist (G.tl e) + G.cc e)) (upd b (G.hd e) (some e)) := by
 obtain ⟨hh, ht⟩ := Nw.hd_lt hG (hp.lt e he)
 have hre := hp.le e he
 have hdh := hw.low _ hh
 have hdt := hw.low _ ht
 have hle : ∀ v, upd dist (G.hd e) (dist (G.tl e) + G.cc e) v ≤ dist v := fun v => by
  unfold upd; split
  · rename_i q; rw [q]; omega
  · exact Int.le_refl _
 have hne : G.tl e ≠ G.hd e := fun q => by rw [q] at h2 hre; omega
 have hu : ∃ n r, G.Ch (upd b (G.hd e) (some e)) (fun _ => True) (G.tl e) n r := by
  obtain ⟨n, r, hc⟩ := hw.rt _ ht
  rcases Nw.pw_avoid hG hp hw (G.hd e) (some e) hc ht with w | w
  · exact ⟨n, r, w.1⟩
  · omega
 have hch : ∀ {v n r : Nat}, G.Ch b (fun _ => True) v n r → v < G.N → ∃ n' r', G.Ch (upd b (G.hd e) (some e)) (fun _ => True) v n' r' := by
  intro v n r hc
  induction hc with
  | root v hv =>
    intro hvN
    by_cases q : v = G.hd e
    · obtain ⟨n', r', hc'⟩ := hu
      exact ⟨n' + 1, r', .step v n' r' e (by rw [q, upd_self]) trivial hc'⟩
    · exact ⟨0, v, .root v (by rw [upd_ne q]; exact hv)⟩
  | step v n r e' he' _ _ ih =>
    intro hvN
    by_cases q : v = G.hd e
    · obtain ⟨n', r', hc'⟩ := hu
      exact ⟨n' + 1, r', .step v n' r' e (by rw [q, upd_self]) trivial hc'⟩
    · obtain ⟨n', r', hc'⟩ := ih (Nw.hd_lt hG (hp.lt e' (hw.st v e' hvN he').1)).2
      exact ⟨n' + 1, r', .step v n' r' e' (by rw [upd_ne q]; exact he') trivial hc'⟩
 refine ⟨fun v hv => ?_, fun v hv hb => ?_, fun v e' hv hb => ?_, fun v hv => ?_⟩
 · by_cases q : v = G.hd e
   · rw [q, upd_self]; omega
   · rw [upd_ne q]; exact hw.low v hv
 · by_cases q : v = G.hd e
   · rw [q, upd_self] at hb; cases hb
   · rw [upd_ne q] at hb ⊢; exact hw.root v hv hb
 · by_cases q : v = G.hd e
   · rw [q, upd_self] at hb
     cases hb
     rw [q, upd_self, upd_ne hne]
     exact ⟨he, rfl, Int.le_refl _⟩
   · rw [upd_ne q] at hb
     obtain ⟨s1, s2, s4⟩ := hw.st v e' hv hb
     rw [upd_ne q]
     exact ⟨s1, s2, by have := hle (G.tl e'); omega⟩
 · obtain ⟨n, r, hc⟩ := hw.rt v hv
   exact hch hc hv
theorem Nw.Pw.depth {G : Nw} (hG : G.Ok) {R : Nat × Bool → Prop} {p dist : Nat → Int} {P C : Int} {b : Nat → Option (Nat × Bool)} (hp : G.Op R p) (hw : G.Pw R p P dist b) (hc : ∀ e, R e → - C ≤ G.cc e) {Q : Nat × Bool → Prop} {v n r : Nat} (h : G.Ch b Q v n r) : v < G.N → - (C * n) ≤ dist v := by
 induction h with
 | root v hv => intro hvN; rw [hw.root v hvN hv]; simp
 | step v n r e he _ _ ih =>
   intro hvN
   obtain ⟨s1, s2, s4⟩ := hw.st v e hvN he
   have h1 := ih (Nw.hd_lt hG (hp.lt e s1)).2
   have h2 := hc e s1
   push_cast
   rw [Int.mul_add]
   omega
theorem Nw.Pw.bd {G : Nw} (hG : G.Ok) {R : Nat × Bool → Prop} {p dist : Nat → Int} {P C : Int} (hC : 0 ≤ C) {b : Nat → Option (Nat × Bool)} (hp : G.Op R p) (hw : G.Pw R p P dist b) (hc : ∀ e, R e → - C ≤ G.cc e) {v : Nat} (hv : v < G.N) : - (C * ((G.N : Int) - 1)) ≤ dist v ∧ dist v ≤ 0 := by
 obtain ⟨n, r, h⟩ := hw.rt v hv
 obtain ⟨L, h1, h2, h3, _⟩ := Nw.ch_list (N := G.N) (fun v e hv he => (Nw.hd_lt hG (hp.lt e (hw.st v e hv he).1)).2) h hv
 have hl := nodup_len h2 h3
 have hd := hw.depth hG hp hc h hv
 have : C * (n : Int) ≤ C * ((G.N : Int) - 1) := Int.mul_le_mul_of_nonneg_left (by omega) hC
 exact ⟨by omega, (hw.low v hv).2⟩
def Nw.ext (G : Nw) : Nw := ⟨G.K + G.N, G.N + 1, fun k => if k < G.K then G.fr k else G.N, fun k => if k < G.K then G.to k else k - G.K, fun k => if k < G.K then G.c k else 0⟩
theorem Nw.ext_ok {G : Nw} (h : G.Ok) : G.ext.Ok := by
 refine ⟨fun k hk => ?_, fun k hk => ?_, fun k hk => ?_⟩
 · show (if k < G.K then G.fr k else G.N) < G.N + 1
   split
   · rename_i q; have := h.fr k q; omega
   · omega
 · show (if k < G.K then G.to k else k - G.K) < G.N + 1
   have hk : k < G.K + G.N := hk
   split
   · rename_i q; have := h.to k q; omega
   · omega
 · show 0 ≤ (if k < G.K then G.c k else 0)
   split
   · rename_i q; exact h.c0 k q
   · omega
def Nw.opn (G : Nw) (have_ f gone : Nat → Int) (e : Nat × Bool) : Prop := e.1 < G.K + G.N ∧ (e.1 < G.K → e.2 = true → 0 < f e.1) ∧ (¬ e.1 < G.K → 0 < have_ (e.1 - G.K) ∧ (e.2 = false → gone (e.1 - G.K) < have_ (e.1 - G.K)) ∧ (e.2 = true → 0 < gone (e.1 - G.K)))
theorem Nw.ext_op {G : Nw} (hG : G.Ok) {have_ f left gone p : Nat → Int} (hp : G.Pot have_ f left p) (hg : ∀ v, v < G.N → 0 < have_ v → gone v = have_ v - left v) : G.ext.Op (G.opn have_ f gone) (fun v => if v < G.N then p v else 0) := by
 refine ⟨fun e he => he.1, fun e he => ?_⟩
 obtain ⟨h1, h2, h3⟩ := he
 by_cases q : e.1 < G.K
 · have a := hp.ar e.1 q
   have hf := hG.fr e.1 q
   have ht := hG.to e.1 q
   have e1 : G.ext.fr e.1 = G.fr e.1 := if_pos q
   have e2 : G.ext.to e.1 = G.to e.1 := if_pos q
   have e3 : G.ext.c e.1 = G.c e.1 := if_pos q
   unfold Nw.hd Nw.tl Nw.cc
   rw [e1, e2, e3]
   cases z : e.2
   · simp only [Bool.false_eq_true, if_false]
     rw [if_pos ht, if_pos hf]; exact a
   · have := hp.tight e.1 q (h2 q z)
     simp only [if_true]
     rw [if_pos ht, if_pos hf]; omega
 · have hi : e.1 - G.K < G.N := by omega
   have e1 : G.ext.fr e.1 = G.N := if_neg q
   have e2 : G.ext.to e.1 = e.1 - G.K := if_neg q
   have e3 : G.ext.c e.1 = 0 := if_neg q
   obtain ⟨g1, g2, g3⟩ := h3 q
   have hgv := hg _ hi g1
   unfold Nw.hd Nw.tl Nw.cc
   rw [e1, e2, e3]
   cases z : e.2
   · have := g2 z
     have := hp.left _ hi (by omega)
     simp only [Bool.false_eq_true, if_false]
     rw [if_pos hi, if_neg (Nat.lt_irrefl _)]; omega
   · have := hp.p0 _ hi
     simp only [if_true]
     rw [if_pos hi, if_neg (Nat.lt_irrefl _)]; omega
structure Nw.Prc (G : Nw) (have_ f gone y : Nat → Int) : Prop where
 ar : ∀ k, k < G.K → y (G.to k) ≤ y (G.fr k) + G.c k
 tight : ∀ k, k < G.K → 0 < f k → y (G.to k) = y (G.fr k) + G.c k
 lo : ∀ v, v < G.N → 0 < have_ v → gone v < have_ v → y v ≤ 0
 hi : ∀ v, v < G.N → 0 < have_ v → 0 < gone v → 0 ≤ y v
theorem Nw.ext_prc {G : Nw} (hG : G.Ok) {have_ f gone dist : Nat → Int} (hf : ∀ e, G.opn have_ f gone e → dist (G.ext.hd e) ≤ dist (G.ext.tl e) + G.ext.cc e) : G.Prc have_ f gone (fun v => dist v - dist G.N) := by
 have hh : ∀ k, k < G.K → ∀ b, G.ext.hd (k, b) = G.hd (k, b) ∧ G.ext.tl (k, b) = G.tl (k, b) ∧ G.ext.cc (k, b) = G.cc (k, b) := fun k hk b => by
  have e1 : G.ext.fr k = G.fr k := if_pos hk
  have e2 : G.ext.to k = G.to k := if_pos hk
  have e3 : G.ext.c k = G.c k := if_pos hk
  refine ⟨?_, ?_, ?_⟩
  · show (if b = true then G.ext.fr k else G.ext.to k) = (if b = true then G.fr k else G.to k); rw [e1, e2]
  · show (if b = true then G.ext.to k else G.ext.fr k) = (if b = true then G.to k else G.fr k); rw [e1, e2]
  · show (if b = true then - G.ext.c k else G.ext.c k) = (if b = true then - G.c k else G.c k); rw [e3]
 have hs : ∀ v, v < G.N → G.ext.fr (G.K + v) = G.N ∧ G.ext.to (G.K + v) = v ∧ G.ext.c (G.K + v) = 0 := fun v hv => by
  have q : ¬ G.K + v < G.K := by omega
  refine ⟨if_neg q, ?_, if_neg q⟩
  show (if G.K + v < G.K then G.to (G.K + v) else G.K + v - G.K) = v
  rw [if_neg q]; omega
 have a1 : ∀ k, k < G.K → dist (G.to k) ≤ dist (G.fr k) + G.c k := fun k hk => by
  have h := hf (k, false) ⟨by show k < G.K + G.N; omega, fun _ z => by simp at z, fun q => absurd hk q⟩
  obtain ⟨q1, q2, q3⟩ := hh k hk false
  rw [q1, q2, q3] at h
  exact h
 refine ⟨fun k hk => by have := a1 k hk; omega, fun k hk h0 => ?_, fun v hv h1 h2 => ?_, fun v hv h1 h2 => ?_⟩
 · have h := hf (k, true) ⟨by show k < G.K + G.N; omega, fun _ _ => h0, fun q => absurd hk q⟩
   obtain ⟨q1, q2, q3⟩ := hh k hk true
   rw [q1, q2, q3] at h
   have h : dist (G.fr k) ≤ dist (G.to k) + - G.c k := h
   have := a1 k hk
   omega
 · have e : G.K + v - G.K = v := by omega
   have h := hf (G.K + v, false) ⟨by show G.K + v < G.K + G.N; omega, fun q => absurd q (by show ¬ G.K + v < G.K; omega), fun _ => by show 0 < have_ (G.K + v - G.K) ∧ _; rw [e]; exact ⟨h1, fun _ => h2, fun z => by simp at z⟩⟩
   obtain ⟨q1, q2, q3⟩ := hs v hv
   have h : dist (G.ext.to (G.K + v)) ≤ dist (G.ext.fr (G.K + v)) + G.ext.c (G.K + v) := h
   rw [q1, q2, q3] at h
   omega
 · have e : G.K + v - G.K = v := by omega
   have h := hf (G.K + v, true) ⟨by show G.K + v < G.K + G.N; omega, fun q => absurd q (by show ¬ G.K + v < G.K; omega), fun _ => by show 0 < have_ (G.K + v - G.K) ∧ _; rw [e]; exact ⟨h1, fun z => by simp at z, fun _ => h2⟩⟩
   obtain ⟨q1, q2, q3⟩ := hs v hv
   have h : dist (G.ext.fr (G.K + v)) ≤ dist (G.ext.to (G.K + v)) + - G.ext.c (G.K + v) := h
   rw [q1, q2, q3] at h
   omega
theorem Nw.prc_cost {G : Nw} (hG : G.Ok) {have_ want f left gone y : Nat → Int} (hs : G.St have_ want f left (fun _ => 0)) (hy : G.Prc have_ f gone y) (hk : ∀ v, v < G.N → have_ v = 0 ∨ want v = 0) (hg : ∀ v, v < G.N → 0 < have_ v → gone v = have_ v - left v) :
 su (fun v => want v * y v - have_ v * max 0 (y v)) G.N = G.cost f := by
 have h1 := Nw.dual hG f y
 have h2 : su (fun k => f k * (y (G.to k) - y (G.fr k))) G.K = G.cost f := by
  unfold Nw.cost
  refine su_congr fun k hkk => ?_
  have f0 := hs.f0 k hkk
  rcases Int.lt_or_le 0 (f k) with q | q
  · have := hy.tight k hkk q
    rw [show y (G.to k) - y (G.fr k) = G.c k by omega]
  · rw [show f k = 0 by omega]; simp
 rw [h2] at h1
 have h3 : su (fun v => want v * y v - have_ v * max 0 (y v)) G.N = su (fun v => 0 - y v * G.net f v) G.N := su_congr fun v hv => by
  have n1 := hs.net v hv
  have n4 := hs.left0 v hv
  rw [n1]
  rcases hk v hv with q | q
  · have : left v = 0 := by omega
    rw [q, this]
    simp only [Int.zero_mul, Int.sub_self, Int.sub_zero, Int.zero_sub, Int.mul_neg, Int.neg_neg]
    exact Int.mul_comm _ _
  · rw [q]
    simp only [Int.zero_mul, Int.sub_self, Int.sub_zero, Int.zero_sub]
    rcases Int.lt_or_le 0 (have_ v) with w | w
    · have hgv := hg v hv w
      have l1 := hy.lo v hv w
      have l2 := hy.hi v hv w
      rw [← hgv]
      rcases Int.lt_trichotomy (y v) 0 with z | z | z
      · rw [show max 0 (y v) = 0 by omega, show gone v = 0 by omega]; simp
      · rw [z]; simp
      · rw [show max 0 (y v) = y v by omega, show gone v = have_ v by omega, Int.mul_comm]
    · rw [show have_ v = 0 by omega, show left v = 0 by omega]; simp
 rw [h3, su_sub, su_zero (fun _ _ => rfl)]
 omega
structure Nw.Bip (G : Nw) (B : Nat → Bool) : Prop where
 fr : ∀ k, k < G.K → G.fr k < G.N ∧ B (G.fr k) = true
 to : ∀ k, k < G.K → G.to k < G.N ∧ B (G.to k) = false
structure Nw.Fl (G : Nw) (B : Nat → Bool) (h w g : Nat → Int) : Prop where
 g0 : ∀ k, k < G.K → 0 ≤ g k
 src : ∀ v, v < G.N → B v = true → G.net g v ≤ h v
 dst : ∀ v, v < G.N → B v = false → G.net g v = - w v
theorem Nw.Bip.net_src {G : Nw} {B : Nat → Bool} (hb : G.Bip B) {g : Nat → Int} (h0 : ∀ k, k < G.K → 0 ≤ g k) {v : Nat} (hv : B v = true) : 0 ≤ G.net g v := by
 refine su_nn fun k hk => ?_
 have := (hb.to k hk).2
 have h1 : ¬ G.to k = v := fun q => by rw [q, hv] at this; cases this
 have := h0 k hk
 rw [if_neg h1]
 split <;> omega
theorem Nw.Bip.net_dst {G : Nw} {B : Nat → Bool} (hb : G.Bip B) {g : Nat → Int} (h0 : ∀ k, k < G.K → 0 ≤ g k) {v : Nat} (hv : B v = false) : G.net g v ≤ 0 := by
 have h : G.net g v ≤ su (fun _ => 0) G.K := su_le fun k hk => by
  have := (hb.fr k hk).2
  have h1 : ¬ G.fr k = v := fun q => by rw [q, hv] at this; cases this
  have := h0 k hk
  simp only [if_neg h1]
  split <;> omega
 rwa [su_zero (fun _ _ => rfl)] at h
theorem Nw.Bip.fl {G : Nw} {B : Nat → Bool} (hb : G.Bip B) {h w : Nat → Int} (hh : ∀ v, v < G.N → B v = false → h v = 0) (hw : ∀ v, v < G.N → B v = true → w v = 0) (g : Nat → Int) : G.Fills h w g ↔ G.Fl B h w g := by
 constructor
 · rintro ⟨h0, h1⟩
   refine ⟨h0, fun v hv q => ?_, fun v hv q => ?_⟩
   · have := h1 v hv; have := hw v hv q; omega
   · have := h1 v hv; have := hh v hv q; omega
 · intro hg
   refine ⟨hg.g0, fun v hv => ?_⟩
   cases q : B v
   · have := hg.dst v hv q; have := hh v hv q; omega
   · have := hg.src v hv q; have := hw v hv q; have := hb.net_src hg.g0 q; omega
def Nw.sh (G : Nw) (a : Nat) : Nw := ⟨G.K - a, G.N, fun k => G.fr (a + k), fun k => G.to (a + k), fun k => G.c (a + k)⟩
theorem Nw.sh_ok {G : Nw} (h : G.Ok) (a : Nat) : (G.sh a).Ok :=
 ⟨fun k hk => h.fr (a + k) (by have hk : k < G.K - a := hk; omega), fun k hk => h.to (a + k) (by have hk : k < G.K - a := hk; omega), fun k hk => h.c0 (a + k) (by have hk : k < G.K - a := hk; omega)⟩
theorem Nw.Bip.sh {G : Nw} {B : Nat → Bool} (h : G.Bip B) (a : Nat) : (G.sh a).Bip B :=
 ⟨fun k hk => h.fr (a + k) (by have hk : k < G.K - a := hk; omega), fun k hk => h.to (a + k) (by have hk : k < G.K - a := hk; omega)⟩
def vcons (u : Int) (x : Nat → Int) : Nat → Int
 | 0 => u
 | k + 1 => x k
def vtl (x : Nat → Int) : Nat → Int := fun k => x (k + 1)
theorem su_cons (F : Nat → Int) : ∀ n, su F (n + 1) = F 0 + su (fun k => F (k + 1)) n
 | 0 => by simp [su]
 | n + 1 => by rw [su, su_cons F n, su]; omega
theorem Nw.net_cons {G : Nw} {a : Nat} (ha : a < G.K) (x : Nat → Int) (v : Nat) : (G.sh a).net x v = (if G.fr a = v then x 0 else 0) - (if G.to a = v then x 0 else 0) + (G.sh (a + 1)).net (vtl x) v := by
 unfold Nw.net
 have e : (G.sh a).K = (G.sh (a + 1)).K + 1 := by show G.K - a = G.K - (a + 1) + 1; omega
 rw [e, su_cons]
 congr 1
 refine su_congr fun k _ => ?_
 show (if G.fr (a + (k + 1)) = v then x (k + 1) else 0) - (if G.to (a + (k + 1)) = v then x (k + 1) else 0) = (if G.fr (a + 1 + k) = v then x (k + 1) else 0) - (if G.to (a + 1 + k) = v then x (k + 1) else 0)
 rw [show a + (k + 1) = a + 1 + k by omega]
theorem Nw.cost_cons {G : Nw} {a : Nat} (ha : a < G.K) (x : Nat → Int) : (G.sh a).cost x = x 0 * G.c a + (G.sh (a + 1)).cost (vtl x) := by
 unfold Nw.cost
 have e : (G.sh a).K = (G.sh (a + 1)).K + 1 := by show G.K - a = G.K - (a + 1) + 1; omega
 rw [e, su_cons]
 congr 1
 refine su_congr fun k _ => ?_
 show x (k + 1) * G.c (a + (k + 1)) = x (k + 1) * G.c (a + 1 + k)
 rw [show a + (k + 1) = a + 1 + k by omega]
def les (h : Nat → Int) (v : Nat) (u : Int) : Nat → Int := upd h v (h v - u)
theorem les_at (h : Nat → Int) (v i : Nat) (u : Int) : les h v u i = h i - (if v = i then u else 0) := by
 unfold les upd
 by_cases q : i = v
 · rw [if_pos q, if_pos q.symm, q]
 · rw [if_neg q, if_neg (fun z => q z.symm)]; omega
theorem Nw.fl_cons {G : Nw} {B : Nat → Bool} (hb : G.Bip B) {a : Nat} (ha : a < G.K) {h w x : Nat → Int} : (G.sh a).Fl B h w x ↔ 0 ≤ x 0 ∧ (G.sh (a + 1)).Fl B (les h (G.fr a) (x 0)) (les w (G.to a) (x 0)) (vtl x) := by
 have hf := hb.fr a ha
 have ht := hb.to a ha
 constructor
 · intro hx
   refine ⟨hx.g0 0 (by show 0 < G.K - a; omega), fun k hk => hx.g0 (k + 1) (by have hk : k < G.K - (a + 1) := hk; show k + 1 < G.K - a; omega), fun v hv q => ?_, fun v hv q => ?_⟩
   · have h1 := hx.src v hv q
     rw [Nw.net_cons ha] at h1
     have : ¬ G.to a = v := fun z => by rw [z, q] at ht; cases ht.2
     rw [if_neg this] at h1
     rw [les_at]; omega
   · have h1 := hx.dst v hv q
     rw [Nw.net_cons ha] at h1
     have : ¬ G.fr a = v := fun z => by rw [z, q] at hf; cases hf.2
     rw [if_neg this] at h1
     rw [les_at]; omega
 · rintro ⟨h0, hx⟩
   refine ⟨fun k hk => ?_, fun v hv q => ?_, fun v hv q => ?_⟩
   · cases k with
     | zero => exact h0
     | succ k => exact hx.g0 k (by have hk : k + 1 < G.K - a := hk; show k < G.K - (a + 1); omega)
   · have h1 := hx.src v hv q
     rw [les_at] at h1
     rw [Nw.net_cons ha]
     have : ¬ G.to a = v := fun z => by rw [z, q] at ht; cases ht.2
     rw [if_neg this]; omega
   · have h1 := hx.dst v hv q
     rw [les_at] at h1
     rw [Nw.net_cons ha]
     have : ¬ G.fr a = v := fun z => by rw [z, q] at hf; cases hf.2
     rw [if_neg this]; omega
theorem Nw.Fl.first {G : Nw} {B : Nat → Bool} (hb : G.Bip B) {a : Nat} (ha : a < G.K) {h w x : Nat → Int} (hx : (G.sh a).Fl B h w x) : 0 ≤ x 0 ∧ x 0 ≤ h (G.fr a) ∧ x 0 ≤ w (G.to a) := by
 obtain ⟨h0, hx2⟩ := (Nw.fl_cons hb ha).1 hx
 have hf := hb.fr a ha
 have ht := hb.to a ha
 have h1 := hx2.src _ hf.1 hf.2
 have h2 := hx2.dst _ ht.1 ht.2
 have h3 := (hb.sh (a + 1)).net_src hx2.g0 hf.2
 have h4 := (hb.sh (a + 1)).net_dst hx2.g0 ht.2
 rw [les_at, if_pos rfl] at h1 h2
 omega
def Nw.IsOpt (G : Nw) (B : Nat → Bool) (h w : Nat → Int) (c : Int) : Prop := (∃ g, G.Fl B h w g ∧ G.cost g = c) ∧ ∀ g, G.Fl B h w g → c ≤ G.cost g
def Bef (n : Nat) (x y : Nat → Int) : Prop := ∃ k, k < n ∧ (∀ j, j < k → x j = y j) ∧ 1 ≤ x k ∧ (y k = 0 ∨ x k < y k)
structure Nw.Best (G : Nw) (B : Nat → Bool) (h w : Nat → Int) (c : Int) (x : Nat → Int) : Prop where
 fl : G.Fl B h w x
 cost : G.cost x = c
 le : ∀ y, G.Fl B h w y → c ≤ G.cost y
 bef : ∀ y, G.Fl B h w y → G.cost y = c → (∀ k, k < G.K → y k = x k) ∨ Bef G.K x y
theorem Nw.best_step {G : Nw} {B : Nat → Bool} (hb : G.Bip B) {a : Nat} (ha : a < G.K) {h w : Nat → Int} {c u : Int} (hle : ∀ y, (G.sh a).Fl B h w y → c ≤ (G.sh a).cost y) (hu : 0 ≤ u)
 (hmin : ∀ m, 1 ≤ m → m < u ∨ u = 0 → m ≤ h (G.fr a) → m ≤ w (G.to a) → ¬ ∃ g, (G.sh (a + 1)).Fl B (les h (G.fr a) m) (les w (G.to a) m) g ∧ (G.sh (a + 1)).cost g + m * G.c a = c) {x : Nat → Int}
 (hx : (G.sh (a + 1)).Best B (les h (G.fr a) u) (les w (G.to a) u) (c - u * G.c a) x) : (G.sh a).Best B h w c (vcons u x) := by
 refine ⟨(Nw.fl_cons hb ha).2 ⟨hu, hx.fl⟩, ?_, hle, fun y hy hyc => ?_⟩
 · rw [Nw.cost_cons ha]
   have := hx.cost
   show u * G.c a + (G.sh (a + 1)).cost x = c
   omega
 · have hf := hy.first hb ha
   obtain ⟨h0, hy2⟩ := (Nw.fl_cons hb ha).1 hy
   rw [Nw.cost_cons ha] at hyc
   have hK : (G.sh a).K = G.K - a := rfl
   have hK2 : (G.sh (a + 1)).K = G.K - (a + 1) := rfl
   by_cases q : y 0 = u
   · rw [q] at hy2 hyc
     rcases hx.bef (vtl y) hy2 (by omega) with e | ⟨k, k1, k2, k3, k4⟩
     · left
       intro k hk
       cases k with
       | zero => exact q
       | succ k => exact e k (by omega)
     · right
       refine ⟨k + 1, by omega, fun j hj => ?_, k3, k4⟩
       cases j with
       | zero => exact q.symm
       | succ j => exact k2 j (by omega)
   · right
     have hno : ¬ (1 ≤ y 0 ∧ (y 0 < u ∨ u = 0)) := fun z => hmin (y 0) z.1 z.2 hf.2.1 hf.2.2 ⟨vtl y, hy2, by omega⟩
     refine ⟨0, by omega, fun j hj => by omega, ?_, ?_⟩
     · show 1 ≤ u; omega
     · show y 0 = 0 ∨ u < y 0; omega
theorem Nw.best_end {G : Nw} {B : Nat → Bool} {h w : Nat → Int} {c : Int} (h1 : (G.sh G.K).IsOpt B h w c) (x : Nat → Int) : (G.sh G.K).Best B h w c x := by
 have hK : (G.sh G.K).K = 0 := by show G.K - G.K = 0; omega
 obtain ⟨⟨g, hg, hgc⟩, hle⟩ := h1
 have hn : ∀ (y : Nat → Int) v, (G.sh G.K).net y v = 0 := fun y v => by unfold Nw.net; rw [hK]; rfl
 have hc : ∀ y : Nat → Int, (G.sh G.K).cost y = 0 := fun y => by unfold Nw.cost; rw [hK]; rfl
 refine ⟨⟨fun k hk => by omega, fun v hv q => ?_, fun v hv q => ?_⟩, ?_, hle, fun y _ _ => .inl fun k hk => by omega⟩
 · have := hg.src v hv q; rw [hn] at this ⊢; exact this
 · have := hg.dst v hv q; rw [hn] at this ⊢; exact this
 · rw [hc] at hgc ⊢; exact hgc
theorem vtl_cons (u : Int) (x : Nat → Int) : vtl (vcons u x) = x := rfl
theorem Nw.opt_many {G : Nw} {B : Nat → Bool} (hb : G.Bip B) {a : Nat} (ha : a < G.K) {h w : Nat → Int} {c m n : Int} (hc : (G.sh a).IsOpt B h w c) (hm : 0 ≤ m) (hn : (G.sh (a + 1)).IsOpt B (les h (G.fr a) m) (les w (G.to a) m) n) :
 n + m * G.c a = c ↔ ∃ g, (G.sh (a + 1)).Fl B (les h (G.fr a) m) (les w (G.to a) m) g ∧ (G.sh (a + 1)).cost g + m * G.c a = c := by
 constructor
 · intro q
   obtain ⟨g, hg, e⟩ := hn.1
   exact ⟨g, hg, by omega⟩
 · rintro ⟨g, hg, e⟩
   have h1 := hn.2 g hg
   obtain ⟨g2, hg2, e2⟩ := hn.1
   have h2 := hc.2 (vcons m g2) ((Nw.fl_cons hb ha).2 ⟨hm, hg2⟩)
   rw [Nw.cost_cons ha] at h2
   have h2 : c ≤ m * G.c a + (G.sh (a + 1)).cost g2 := h2
   omega
theorem Nw.opt_used {G : Nw} {a : Nat} {B : Nat → Bool} {h w : Nat → Int} {c m n : Int} (hn : (G.sh (a + 1)).IsOpt B (les h (G.fr a) m) (les w (G.to a) m) n) (e : n + m * G.c a = c) : (G.sh (a + 1)).IsOpt B (les h (G.fr a) m) (les w (G.to a) m) (c - m * G.c a) := by
 rw [show c - m * G.c a = n by omega]; exact hn
theorem Nw.opt_zero {G : Nw} {B : Nat → Bool} (hb : G.Bip B) {a : Nat} (ha : a < G.K) {h w : Nat → Int} {c : Int} (hc : (G.sh a).IsOpt B h w c)
 (hmin : ∀ m, 1 ≤ m → m ≤ h (G.fr a) → m ≤ w (G.to a) → ¬ ∃ g, (G.sh (a + 1)).Fl B (les h (G.fr a) m) (les w (G.to a) m) g ∧ (G.sh (a + 1)).cost g + m * G.c a = c) : (G.sh (a + 1)).IsOpt B (les h (G.fr a) 0) (les w (G.to a) 0) (c - 0 * G.c a) := by
 obtain ⟨⟨g, hg, e⟩, hle⟩ := hc
 have hf := hg.first hb ha
 have hg2 := (Nw.fl_cons hb ha).1 hg
 have hcc := Nw.cost_cons ha g
 have h0 : g 0 = 0 := by
  rcases Int.lt_or_le (g 0) 1 with q | q
  · omega
  · exact absurd ⟨vtl g, hg2.2, by omega⟩ (hmin (g 0) q hf.2.1 hf.2.2)
 rw [h0] at hg2 hcc
 rw [Int.zero_mul] at hcc ⊢
 refine ⟨⟨vtl g, hg2.2, by omega⟩, fun y hy => ?_⟩
 have h2 := hle (vcons 0 y) ((Nw.fl_cons hb ha).2 ⟨Int.le_refl _, hy⟩)
 rw [Nw.cost_cons ha] at h2
 have h2 : c ≤ 0 * G.c a + (G.sh (a + 1)).cost y := h2
 omega
def cmpF {α : Type} (c : α → α → Int) : List α → List α → Int
 | [], [] => 0
 | [], _ :: _ => -1
 | _ :: _, [] => 1
 | a :: l, b :: m => if c a b = 0 then cmpF c l m else c a b
structure COrd {α : Type} (c : α → α → Int) : Prop where
 eq : ∀ a b, c a b = 0 ↔ a = b
 sw : ∀ a b, c a b < 0 ↔ 0 < c b a
 tr : ∀ a b d, c a b < 0 → c b d < 0 → c a d < 0
theorem COrd.refl {α : Type} {c : α → α → Int} (h : COrd c) (a : α) : c a a = 0 := (h.eq a a).2 rfl
theorem COrd.list {α : Type} {c : α → α → Int} (h : COrd c) : COrd (cmpF c) := by
 refine ⟨?_, ?_, ?_⟩
 · intro a
   induction a with
   | nil => intro b; cases b <;> simp [cmpF]
   | cons x a ih =>
     intro b
     cases b with
     | nil => simp [cmpF]
     | cons y b =>
       rw [cmpF]
       by_cases q : c x y = 0
       · rw [if_pos q, ih]
         have := (h.eq x y).1 q
         subst this
         simp
       · rw [if_neg q]
         have : ¬ x = y := fun z => q ((h.eq x y).2 z)
         simp [q, this]
 · intro a
   induction a with
   | nil => intro b; cases b <;> simp [cmpF]
   | cons x a ih =>
     intro b
     cases b with
     | nil => simp [cmpF]
     | cons y b =>
       rw [cmpF, cmpF]
       by_cases q : c x y = 0
       · have := (h.eq x y).1 q
         subst this
         rw [if_pos q, if_pos q]; exact ih b
       · have : ¬ c y x = 0 := fun z => q ((h.eq x y).2 ((h.eq y x).1 z).symm)
         rw [if_neg q, if_neg this]; exact h.sw x y
 · intro a
   induction a with
   | nil =>
     intro b d
     cases b with
     | nil => simp [cmpF]
     | cons y b => cases d <;> simp [cmpF]
   | cons x a ih =>
     intro b d
     cases b with
     | nil => simp [cmpF]
     | cons y b =>
       cases d with
       | nil =>
         intro _ h2
         simp [cmpF] at h2
       | cons z d =>
         rw [cmpF, cmpF, cmpF]
         by_cases q : c x y = 0
         · have := (h.eq x y).1 q
           subst this
           rw [if_pos q]
           by_cases w : c x z = 0
           · rw [if_pos w, if_pos w]; exact ih b d
           · rw [if_neg w, if_neg w]; exact fun _ h2 => h2
         · rw [if_neg q]
           by_cases w : c y z = 0
           · have := (h.eq y z).1 w
             subst this
             rw [if_pos w, if_neg q]; exact fun h1 _ => h1
           · rw [if_neg w]
             intro h1 h2
             have h3 := h.tr x y z h1 h2
             rw [if_neg (by omega)]; exact h3
theorem cmpF_app {α : Type} {c : α → α → Int} (h : COrd c) : ∀ (a b s t : List α), (∀ m, m ≠ [] → a ≠ b ++ m) → (∀ m, m ≠ [] → b ≠ a ++ m) → a ≠ b → cmpF c (a ++ s) (b ++ t) = cmpF c a b := by
 intro a
 induction a with
 | nil =>
   intro b s t _ h2 h3
   cases b with
   | nil => exact absurd rfl h3
   | cons y b => exact absurd rfl (h2 (y :: b) (by simp))
 | cons x a ih =>
   intro b s t h1 h2 h3
   cases b with
   | nil => exact absurd rfl (h1 (x :: a) (by simp))
   | cons y b =>
     rw [List.cons_append, List.cons_append, cmpF, cmpF]
     by_cases q : c x y = 0
     · have := (h.eq x y).1 q
       subst this
       rw [if_pos q, if_pos q]
       exact ih b s t (fun m hm e => h1 m hm (by rw [e]; rfl)) (fun m hm e => h2 m hm (by rw [e]; rfl)) (fun e => h3 (by rw [e]))
     · rw [if_neg q, if_neg q]
structure Pla (μ : Type) where
 l : List μ
 cost : Int
def Pla.app {μ : Type} (p : Pla μ) (s : List μ) (d : Int) : Pla μ := ⟨p.l ++ s, p.cost + d⟩
theorem Pla.app_nil {μ : Type} (p : Pla μ) : p.app [] 0 = p := by unfold Pla.app; rw [List.append_nil, Int.add_zero]
theorem Pla.app_app {μ : Type} (p : Pla μ) (s t : List μ) (d e : Int) : (p.app s d).app t e = p.app (s ++ t) (d + e) := by unfold Pla.app; simp [Int.add_assoc]
def lessP {μ : Type} (c : μ → μ → Int) (p q : Pla μ) : Bool := if p.cost ≠ q.cost then decide (p.cost < q.cost) else decide (cmpF c p.l q.l < 0)
theorem lessP_iff {μ : Type} {c : μ → μ → Int} {p q : Pla μ} : lessP c p q = true ↔ p.cost < q.cost ∨ p.cost = q.cost ∧ cmpF c p.l q.l < 0 := by
 unfold lessP
 by_cases h : p.cost = q.cost
 · rw [if_neg (by simpa using h), decide_eq_true_eq]; constructor
   · exact fun z => .inr ⟨h, z⟩
   · rintro (z | z)
     · omega
     · exact z.2
 · rw [if_pos h, decide_eq_true_eq]; constructor
   · exact fun z => .inl z
   · rintro (z | z)
     · exact z
     · exact absurd z.1 h
theorem lessP_tr {μ : Type} {c : μ → μ → Int} (h : COrd c) {p q r : Pla μ} (h1 : lessP c p q = true) (h2 : lessP c q r = true) : lessP c p r = true := by
 rw [lessP_iff] at *
 rcases h1 with a | ⟨a, a2⟩ <;> rcases h2 with b | ⟨b, b2⟩
 · left; omega
 · left; omega
 · left; omega
 · right; exact ⟨by omega, h.list.tr _ _ _ a2 b2⟩
theorem lessP_irr {μ : Type} {c : μ → μ → Int} (h : COrd c) (p : Pla μ) : lessP c p p = false := by
 rw [Bool.eq_false_iff]; intro z
 rw [lessP_iff] at z
 have := h.list.refl p.l
 omega
theorem lessP_tot {μ : Type} {c : μ → μ → Int} (h : COrd c) (p q : Pla μ) : lessP c p q = true ∨ p = q ∨ lessP c q p = true := by
 rw [lessP_iff, lessP_iff]
 rcases Int.lt_trichotomy p.cost q.cost with a | a | a
 · exact .inl (.inl a)
 · rcases Int.lt_trichotomy (cmpF c p.l q.l) 0 with b | b | b
   · exact .inl (.inr ⟨a, b⟩)
   · right; left
     have := (h.list.eq p.l q.l).1 b
     cases p; cases q; simp_all
   · exact .inr (.inr (.inr ⟨a.symm, (h.list.sw q.l p.l).2 b⟩))
 · exact .inr (.inr (.inl a))
theorem lessP_nle {μ : Type} {c : μ → μ → Int} (h : COrd c) {p q r : Pla μ} (h1 : lessP c q p = false) (h2 : lessP c r q = false) : lessP c r p = false := by
 rw [Bool.eq_false_iff] at *
 intro z
 rcases lessP_tot h q r with a | a | a
 · exact h1 (lessP_tr h a z)
 · subst a; exact h1 z
 · exact h2 a
abbrev PMap (μ : Type) := List UInt8 → Option (Pla μ)
def MinOf {μ : Type} (c : μ → μ → Int) (M : PMap μ) (S : List UInt8 → Pla μ → Prop) : Prop :=
 ∀ σ, match M σ with
  | none => ∀ p, ¬ S σ p
  | some q => S σ q ∧ ∀ p, S σ p → lessP c p q = false
theorem MinOf.congr {μ : Type} {c : μ → μ → Int} {M : PMap μ} {S S' : List UInt8 → Pla μ → Prop} (h : MinOf c M S) (hs : ∀ σ p, S σ p ↔ S' σ p) : MinOf c M S' := by
 intro σ
 have := h σ
 cases q : M σ with
 | none => rw [q] at this; exact fun p hp => this p ((hs σ p).2 hp)
 | some r => rw [q] at this; exact ⟨(hs σ r).1 this.1, fun p hp => this.2 p ((hs σ p).2 hp)⟩
def insM {μ : Type} (c : μ → μ → Int) (M : PMap μ) (σ : List UInt8) (p : Pla μ) : PMap μ := fun τ => if τ = σ then (match M σ with
 | none => some p
 | some old => if lessP c p old = true then some p else some old) else M τ
theorem MinOf.ins {μ : Type} {c : μ → μ → Int} (hc : COrd c) {M : PMap μ} {S : List UInt8 → Pla μ → Prop} (h : MinOf c M S) (σ : List UInt8) (p : Pla μ) : MinOf c (insM c M σ p) (fun τ q => S τ q ∨ (τ = σ ∧ q = p)) := by
 intro τ
 have h1 := h τ
 unfold insM
 by_cases e : τ = σ
 · subst e
   simp only [if_true]
   cases q : M τ with
   | none =>
     rw [q] at h1
     refine ⟨.inr (by simp), fun r hr => ?_⟩
     rcases hr with hr | ⟨_, rfl⟩
     · exact absurd hr (h1 r)
     · exact lessP_irr hc _
   | some old =>
     rw [q] at h1
     obtain ⟨h2, h3⟩ := h1
     by_cases w : lessP c p old = true
     · simp only [if_pos w]
       refine ⟨.inr (by simp), fun r hr => ?_⟩
       rcases hr with hr | ⟨_, rfl⟩
       · rw [Bool.eq_false_iff]; intro z
         have := h3 r hr
         rw [lessP_tr hc z w] at this; cases this
       · exact lessP_irr hc _
     · simp only [if_neg w]
       refine ⟨.inl h2, fun r hr => ?_⟩
       rcases hr with hr | ⟨_, rfl⟩
       · exact h3 r hr
       · simpa using w
 · simp only [if_neg e]
   cases q : M τ with
   | none =>
     rw [q] at h1
     intro r hr
     rcases hr with hr | hr
     · exact h1 r hr
     · exact e hr.1
   | some old =>
     rw [q] at h1
     refine ⟨.inl h1.1, fun r hr => ?_⟩
     rcases hr with hr | hr
     · exact h1.2 r hr
     · exact absurd hr.1 e
structure Stn (μ : Type) where
 way : Nat → Option Int
 mv : Nat → Int → μ
 many : Int
def stL (st : List UInt8) (k : Nat) (n : Int) : List UInt8 := st.set k (UInt8.ofNat ((st.getD k 0).toNat - n.toNat))
def rep {α : Type} (F : Int → α → α) : Nat → α → α
 | 0, x => x
 | n + 1, x => F ((n : Int) + 1) (rep F n x)
def sendM {μ : Type} (c : μ → μ → Int) (s : Stn μ) : Nat → Nat → List UInt8 → Int → Pla μ → PMap μ → PMap μ
 | 0, _, st, _, p, M => insM c M st p
 | d + 1, k, st, left, p, M => match s.way k with
   | none => sendM c s d (k + 1) st left p M
   | some car => rep (fun n M => sendM c s d (k + 1) (stL st k n) (left - n) (p.app [s.mv k n] (n * car)) M) (min left (st.getD k 0).toNat).toNat (sendM c s d (k + 1) st left p M)
inductive Cd {μ : Type} (s : Stn μ) : Nat → Nat → List UInt8 → Int → List UInt8 → List μ → Int → Prop
 | fin (k : Nat) (st : List UInt8) (left : Int) : Cd s 0 k st left st [] 0
 | skip (d k : Nat) (st : List UInt8) (left : Int) (st' : List UInt8) (suf : List μ) (dc : Int) (h : Cd s d (k + 1) st left st' suf dc) : Cd s (d + 1) k st left st' suf dc
 | some (d k : Nat) (st : List UInt8) (left : Int) (st' : List UInt8) (suf : List μ) (dc n car : Int) (hw : s.way k = some car) (h1 : 1 ≤ n) (h2 : n ≤ left) (h3 : n ≤ (st.getD k 0).toNat) (h : Cd s d (k + 1) (stL st k n) (left - n) st' suf dc) : Cd s (d + 1) k st left st' (s.mv k n :: suf) (n * car + dc)
theorem send_min {μ : Type} {c : μ → μ → Int} (hc : COrd c) (s : Stn μ) : ∀ (d k : Nat) (st : List UInt8) (left : Int) (p : Pla μ) (M : PMap μ) (S : List UInt8 → Pla μ → Prop), MinOf c M S → MinOf c (sendM c s d k st left p M) (fun σ q => S σ q ∨ ∃ suf dc, Cd s d k st left σ suf dc ∧ q = p.app suf dc) := by
 intro d
 induction d with
 | zero =>
   intro k st left p M S h
   rw [sendM]
   refine (h.ins hc st p).congr fun σ q => ?_
   constructor
   · rintro (z | ⟨rfl, rfl⟩)
     · exact .inl z
     · exact .inr ⟨[], 0, .fin k σ left, q.app_nil.symm⟩
   · rintro (z | ⟨suf, dc, hd, rfl⟩)
     · exact .inl z
     · cases hd
       exact .inr ⟨rfl, p.app_nil⟩
 | succ d ih =>
   intro k st left p M S h
   rw [sendM]
   have h1 := ih (k + 1) st left p M S h
   cases hw : s.way k with
   | none =>
     refine h1.congr fun σ q => ?_
     constructor
     · rintro (z | ⟨suf, dc, hd, rfl⟩)
       · exact .inl z
       · exact .inr ⟨suf, dc, .skip d k st left σ suf dc hd, rfl⟩
     · rintro (z | ⟨suf, dc, hd, rfl⟩)
       · exact .inl z
       · cases hd with
         | skip _ _ _ _ _ _ _ hd => exact .inr ⟨suf, dc, hd, rfl⟩
         | some _ _ _ _ _ suf dc n car hw' _ _ _ _ => rw [hw] at hw'; cases hw'
   | some car =>
     have key : ∀ m : Nat, (m : Int) ≤ left → m ≤ (st.getD k 0).toNat → MinOf c (rep (fun n M => sendM c s d (k + 1) (stL st k n) (left - n) (p.app [s.mv k n] (n * car)) M) m (sendM c s d (k + 1) st left p M))
      (fun σ q => (S σ q ∨ ∃ suf dc, Cd s d (k + 1) st left σ suf dc ∧ q = p.app suf dc) ∨ ∃ n suf dc, (1 ≤ n ∧ n ≤ (m : Int)) ∧ Cd s d (k + 1) (stL st k n) (left - n) σ suf dc ∧ q = p.app (s.mv k n :: suf) (n * car + dc)) := by
      intro m
      induction m with
      | zero =>
        intro _ _
        refine h1.congr fun σ q => ?_
        constructor
        · exact fun z => .inl z
        · rintro (z | ⟨n, _, _, z, _⟩)
          · exact z
          · exfalso; omega
      | succ m ihm =>
        intro hm1 hm2
        have h2 := ih (k + 1) (stL st k ((m : Int) + 1)) (left - ((m : Int) + 1)) (p.app [s.mv k ((m : Int) + 1)] (((m : Int) + 1) * car)) _ _ (ihm (by omega) (by omega))
        refine h2.congr fun σ q => ?_
        constructor
        · rintro ((z | ⟨n, suf, dc, z, z2⟩) | ⟨suf, dc, hd, rfl⟩)
          · exact .inl z
          · exact .inr ⟨n, suf, dc, ⟨z.1, by push_cast; omega⟩, z2⟩
          · exact .inr ⟨(m : Int) + 1, suf, dc, ⟨by omega, by push_cast; omega⟩, hd, by rw [Pla.app_app]; rfl⟩
        · rintro (z | ⟨n, suf, dc, z, hd, rfl⟩)
          · exact .inl (.inl z)
          · by_cases w : n = (m : Int) + 1
            · subst w
              exact .inr ⟨suf, dc, hd, by rw [Pla.app_app]; rfl⟩
            · exact .inl (.inr ⟨n, suf, dc, ⟨z.1, by have := z.2; push_cast at this; omega⟩, hd, rfl⟩)
     by_cases hl : 0 ≤ left
     · refine (key (min left (st.getD k 0).toNat).toNat (by omega) (by omega)).congr fun σ q => ?_
       constructor
       · rintro ((z | ⟨suf, dc, hd, rfl⟩) | ⟨n, suf, dc, z, hd, rfl⟩)
         · exact .inl z
         · exact .inr ⟨suf, dc, .skip d k st left σ suf dc hd, rfl⟩
         · exact .inr ⟨_, _, .some d k st left σ suf dc n car hw z.1 (by omega) (by omega) hd, rfl⟩
       · rintro (z | ⟨suf, dc, hd, rfl⟩)
         · exact .inl (.inl z)
         · cases hd with
           | skip _ _ _ _ _ _ _ hd => exact .inl (.inr ⟨suf, dc, hd, rfl⟩)
           | some _ _ _ _ _ suf dc n car' hw' g1 g2 g3 hd =>
             rw [hw] at hw'; cases hw'
             exact .inr ⟨n, suf, dc, ⟨g1, by omega⟩, hd, rfl⟩
     · have e0 : (min left (st.getD k 0).toNat).toNat = 0 := by omega
       simp only [e0]
       refine h1.congr fun σ q => ?_
       constructor
       · rintro (z | ⟨suf, dc, hd, rfl⟩)
         · exact .inl z
         · exact .inr ⟨suf, dc, .skip d k st left σ suf dc hd, rfl⟩
       · rintro (z | ⟨suf, dc, hd, rfl⟩)
         · exact .inl z
         · cases hd with
           | skip _ _ _ _ _ _ _ hd => exact .inr ⟨suf, dc, hd, rfl⟩
           | some _ _ _ _ _ suf dc n car' hw' g1 g2 g3 hd => exfalso; omega
def runPM {μ : Type} (c : μ → μ → Int) (s : Stn μ) (J : Nat) (E : List (List UInt8 × Pla μ)) (M : PMap μ) : PMap μ := E.foldl (fun M e => sendM c s J 0 e.1 s.many e.2 M) M
theorem runPM_min {μ : Type} {c : μ → μ → Int} (hc : COrd c) (s : Stn μ) (J : Nat) : ∀ (E : List (List UInt8 × Pla μ)) (M : PMap μ) (S : List UInt8 → Pla μ → Prop), MinOf c M S → MinOf c (runPM c s J E M) (fun σ q => S σ q ∨ ∃ e ∈ E, ∃ suf dc, Cd s J 0 e.1 s.many σ suf dc ∧ q = e.2.app suf dc) := by
 intro E
 induction E with
 | nil =>
   intro M S h
   refine h.congr fun σ q => ?_
   constructor
   · exact fun z => .inl z
   · rintro (z | ⟨e, he, _⟩)
     · exact z
     · cases he
 | cons e E ih =>
   intro M S h
   have h1 := ih _ _ (send_min hc s J 0 e.1 s.many e.2 M S h)
   refine h1.congr fun σ q => ?_
   constructor
   · rintro ((z | ⟨suf, dc, z⟩) | ⟨e', he', z⟩)
     · exact .inl z
     · exact .inr ⟨e, List.mem_cons_self .., suf, dc, z⟩
     · exact .inr ⟨e', List.mem_cons_of_mem _ he', z⟩
   · rintro (z | ⟨e', he', z⟩)
     · exact .inl (.inl z)
     · rcases List.mem_cons.1 he' with rfl | w
       · exact .inl (.inr z)
       · exact .inr ⟨e', w, z⟩
def Full {μ : Type} (J : Nat) (σ0 : List UInt8) : List (Stn μ) → List UInt8 → Pla μ → Prop
 | [], σ, p => σ = σ0 ∧ p = ⟨[], 0⟩
 | s :: L, σ', p' => ∃ σ p suf dc, Full J σ0 L σ p ∧ Cd s J 0 σ s.many σ' suf dc ∧ p' = p.app suf dc
def totL {μ : Type} (num : μ → Int) (l : List μ) : Int := (l.map num).sum
def totS (st : List UInt8) : Int := (st.map fun b => (b.toNat : Int)).sum
theorem totS_set : ∀ {st : List UInt8} {k : Nat} {n : Int}, 1 ≤ n → n ≤ (st.getD k 0).toNat → totS (stL st k n) = totS st - n
 | [], k, n, h1, h2 => by simp at h2; omega
 | b :: st, 0, n, h1, h2 => by
   simp only [List.getD_cons_zero] at h2
   have hb := b.toNat_lt
   have e : (UInt8.ofNat (b.toNat - n.toNat)).toNat = b.toNat - n.toNat := by
    rw [UInt8.toNat_ofNat']; exact Nat.mod_eq_of_lt (by omega)
   unfold stL totS
   simp only [List.set_cons_zero, List.map_cons, List.sum_cons, List.getD_cons_zero, e]
   omega
 | b :: st, k + 1, n, h1, h2 => by
   simp only [List.getD_cons_succ] at h2
   have := totS_set h1 h2
   unfold stL totS at *
   simp only [List.set_cons_succ, List.map_cons, List.sum_cons, List.getD_cons_succ]
   omega
theorem cd_tot {μ : Type} {num : μ → Int} {s : Stn μ} (hn : ∀ k n, num (s.mv k n) = n) {d k : Nat} {st st' : List UInt8} {left dc : Int} {suf : List μ} (h : Cd s d k st left st' suf dc) : totL num suf + totS st' = totS st ∧ ∀ m ∈ suf, 1 ≤ num m := by
 induction h with
 | fin => exact ⟨by simp [totL], by simp⟩
 | skip _ _ _ _ _ _ _ _ ih => exact ih
 | some d k st left st' suf dc n car hw h1 h2 h3 h ih =>
   have e := totS_set h1 h3
   refine ⟨?_, fun m hm => ?_⟩
   · have := ih.1
     unfold totL at *
     rw [List.map_cons, List.sum_cons, hn]
     omega
   · rcases List.mem_cons.1 hm with rfl | q
     · rw [hn]; exact h1
     · exact ih.2 m q
theorem totL_app {μ : Type} (num : μ → Int) (a b : List μ) : totL num (a ++ b) = totL num a + totL num b := by unfold totL; rw [List.map_append, List.sum_append]
theorem full_tot {μ : Type} {num : μ → Int} {J : Nat} {σ0 : List UInt8} : ∀ {L : List (Stn μ)}, (∀ s ∈ L, ∀ k n, num (s.mv k n) = n) → ∀ {σ p}, Full J σ0 L σ p → totL num p.l + totS σ = totS σ0 ∧ ∀ m ∈ p.l, 1 ≤ num m
 | [], _, σ, p, h => by obtain ⟨rfl, rfl⟩ := h; exact ⟨by simp [totL], by simp⟩
 | s :: L, hn, σ', p', ⟨σ, p, suf, dc, h1, h2, e⟩ => by
   subst e
   have i1 := full_tot (fun s hs => hn s (List.mem_cons_of_mem _ hs)) h1
   have i2 := cd_tot (hn s (List.mem_cons_self ..)) h2
   refine ⟨?_, fun m hm => ?_⟩
   · show totL num (p.l ++ suf) + _ = _
     rw [totL_app]
     have := i1.1
     have := i2.1
     omega
   · rcases List.mem_append.1 hm with q | q
     · exact i1.2 m q
     · exact i2.2 m q
theorem tot_pos {μ : Type} {num : μ → Int} : ∀ {l : List μ}, l ≠ [] → (∀ m ∈ l, 1 ≤ num m) → 1 ≤ totL num l
 | [], h, _ => absurd rfl h
 | [m], _, h => by have := h m (by simp); unfold totL; simpa using this
 | m :: x :: l, _, h => by
   have h1 := h m (by simp)
   have h2 := tot_pos (l := x :: l) (by simp) (fun y hy => h y (List.mem_cons_of_mem _ hy))
   unfold totL at *
   rw [List.map_cons, List.sum_cons]
   omega
theorem app_mono {μ : Type} {c : μ → μ → Int} (hc : COrd c) {num : μ → Int} {p q : Pla μ} (hp : ∀ m ∈ p.l, 1 ≤ num m) (hq : ∀ m ∈ q.l, 1 ≤ num m) (ht : totL num p.l = totL num q.l) (h : lessP c q p = false) (s : List μ) (d : Int) : lessP c (q.app s d) (p.app s d) = false := by
 rw [Bool.eq_false_iff] at *
 intro z
 apply h
 rw [lessP_iff] at *
 rcases z with z | ⟨z1, z2⟩
 · left
   have z : q.cost + d < p.cost + d := z
   omega
 · right
   have z1 : q.cost + d = p.cost + d := z1
   refine ⟨by omega, ?_⟩
   have z2 : cmpF c (q.l ++ s) (p.l ++ s) < 0 := z2
   by_cases e : q.l = p.l
   · rw [e, hc.list.refl] at z2; omega
   · rw [cmpF_app hc q.l p.l s s ?_ ?_ e] at z2
     · exact z2
     · intro m hm e2
       rw [e2, totL_app] at ht
       have := tot_pos hm (fun x hx => hq x (by rw [e2]; exact List.mem_append_right _ hx))
       omega
     · intro m hm e2
       rw [e2, totL_app] at ht
       have := tot_pos hm (fun x hx => hp x (by rw [e2]; exact List.mem_append_right _ hx))
       omega
theorem now_init {μ : Type} (c : μ → μ → Int) (hc : COrd c) (J : Nat) (σ0 : List UInt8) : MinOf c (fun τ => if τ = σ0 then some ⟨[], 0⟩ else none) (Full (μ := μ) J σ0 []) := by
 intro σ
 by_cases q : σ = σ0
 · simp only [if_pos q]
   refine ⟨⟨q, rfl⟩, fun p hp => ?_⟩
   obtain ⟨_, rfl⟩ := hp
   exact lessP_irr hc _
 · simp only [if_neg q]
   intro p hp
   exact q hp.1
theorem now_step {μ : Type} {c : μ → μ → Int} (hc : COrd c) {num : μ → Int} {J : Nat} {σ0 : List UInt8} {L : List (Stn μ)} (hn : ∀ s ∈ L, ∀ k n, num (s.mv k n) = n) (s : Stn μ) {now : PMap μ} (h : MinOf c now (Full J σ0 L)) {E : List (List UInt8 × Pla μ)} (hE : ∀ σ p, (σ, p) ∈ E ↔ now σ = some p) :
 MinOf c (runPM c s J E (fun _ => none)) (Full J σ0 (s :: L)) := by
 have h1 := runPM_min hc s J E (fun _ => none) (fun _ _ => False) (fun σ p z => z)
 intro σ'
 have h2 := h1 σ'
 have hlow : ∀ σ p suf dc, Full J σ0 L σ p → Cd s J 0 σ s.many σ' suf dc → ∃ r, (σ, r) ∈ E ∧ lessP c (p.app suf dc) (r.app suf dc) = false := by
  intro σ p suf dc hf hd
  have h3 := h σ
  cases q : now σ with
  | none => rw [q] at h3; exact absurd hf (h3 p)
  | some r =>
    rw [q] at h3
    have t1 := full_tot hn hf
    have t2 := full_tot hn h3.1
    exact ⟨r, (hE σ r).2 q, app_mono hc t2.2 t1.2 (by omega) (h3.2 p hf) suf dc⟩
 cases q : runPM c s J E (fun _ => none) σ' with
 | none =>
   rw [q] at h2
   rintro p' ⟨σ, p, suf, dc, hf, hd, rfl⟩
   obtain ⟨r, hr, _⟩ := hlow σ p suf dc hf hd
   exact h2 (r.app suf dc) (.inr ⟨_, hr, suf, dc, hd, rfl⟩)
 | some r' =>
   rw [q] at h2
   obtain ⟨h3, h4⟩ := h2
   refine ⟨?_, ?_⟩
   · rcases h3 with z | ⟨⟨σ, r⟩, he, suf, dc, hd, rfl⟩
     · exact z.elim
     · have h5 := h σ
       rw [(hE σ r).1 he] at h5
       exact ⟨σ, r, suf, dc, h5.1, hd, rfl⟩
   · rintro p' ⟨σ, p, suf, dc, hf, hd, rfl⟩
     obtain ⟨r, hr, hl⟩ := hlow σ p suf dc hf hd
     exact lessP_nle hc (h4 _ (.inr ⟨_, hr, suf, dc, hd, rfl⟩)) hl
def lsV {μ : Type} (m : Nat → Int → μ) : Nat → Nat → (Nat → Int) → List μ
 | 0, _, _ => []
 | n + 1, a, x => (if 0 < x 0 then [m a (x 0)] else []) ++ lsV m n (a + 1) (vtl x)
theorem lsV_head {μ : Type} (m : Nat → Int → μ) : ∀ n a x, lsV m n a x = [] ∨ ∃ b v l, (a ≤ b ∧ b < a + n) ∧ lsV m n a x = m b v :: l
 | 0, _, _ => .inl rfl
 | n + 1, a, x => by
   rw [lsV]
   by_cases q : 0 < x 0
   · rw [if_pos q]; exact .inr ⟨a, x 0, _, ⟨Nat.le_refl _, by omega⟩, rfl⟩
   · rw [if_neg q, List.nil_append]
     rcases lsV_head m n (a + 1) (vtl x) with h | ⟨b, v, l, h1, h2⟩
     · exact .inl h
     · exact .inr ⟨b, v, l, ⟨by omega, by omega⟩, h2⟩
theorem lsV_tot {μ : Type} {num : μ → Int} {m : Nat → Int → μ} (hn : ∀ a v, num (m a v) = v) : ∀ n a x, (∀ k, k < n → 0 ≤ x k) → totL num (lsV m n a x) = su x n
 | 0, _, _, _ => rfl
 | n + 1, a, x, h => by
   rw [lsV, totL_app, lsV_tot hn n (a + 1) (vtl x) (fun k hk => h (k + 1) (by omega)), su_cons]
   have h0 := h 0 (by omega)
   congr 1
   by_cases q : 0 < x 0
   · rw [if_pos q]; simp [totL, hn]
   · rw [if_neg q]; simp [totL]; omega
theorem bef_ls {μ : Type} {c : μ → μ → Int} (hc : COrd c) {num : μ → Int} {m : Nat → Int → μ} (hn : ∀ a v, num (m a v) = v) (h1 : ∀ a u v, u < v → c (m a u) (m a v) < 0) {K : Nat} (h2 : ∀ a b u v, a < b → b < K → c (m a u) (m b v) < 0) :
 ∀ n a x y, a + n ≤ K → (∀ k, k < n → 0 ≤ x k) → (∀ k, k < n → 0 ≤ y k) → su x n = su y n → Bef n x y → cmpF c (lsV m n a x) (lsV m n a y) < 0
 | 0, _, _, _, _, _, _, _, h => by obtain ⟨k, hk, _⟩ := h; omega
 | n + 1, a, x, y, hK, hx, hy, hs, ⟨k, k1, k2, k3, k4⟩ => by
   rw [su_cons, su_cons] at hs
   cases k with
   | zero =>
     rw [lsV, lsV, if_pos (by omega)]
     have hx2 : 0 ≤ su (fun k => x (k + 1)) n := su_nn fun k hk => hx (k + 1) (by omega)
     rcases k4 with w | w
     · rw [if_neg (by omega), List.nil_append]
       rcases lsV_head m n (a + 1) (vtl y) with e | ⟨b, v, l, e1, e2⟩
       · exfalso
         have := lsV_tot hn n (a + 1) (vtl y) (fun k hk => hy (k + 1) (by omega))
         rw [e] at this
         have t0 : totL num [] = 0 := rfl
         rw [t0] at this
         have : su (fun k => y (k + 1)) n = 0 := this.symm
         omega
       · rw [e2]
         show (if c (m a (x 0)) (m b v) = 0 then _ else c (m a (x 0)) (m b v)) < 0
         have := h2 a b (x 0) v (by omega) (by omega)
         rw [if_neg (by omega)]; exact this
     · rw [if_pos (by omega)]
       show (if c (m a (x 0)) (m a (y 0)) = 0 then _ else c (m a (x 0)) (m a (y 0))) < 0
       have := h1 a (x 0) (y 0) w
       rw [if_neg (by omega)]; exact this
   | succ k =>
     have e0 := k2 0 (by omega)
     have ih := bef_ls hc hn h1 h2 n (a + 1) (vtl x) (vtl y) (by omega) (fun k hk => hx (k + 1) (by omega)) (fun k hk => hy (k + 1) (by omega)) (by show su (fun k => x (k + 1)) n = su (fun k => y (k + 1)) n; omega) ⟨k, by omega, fun j hj => k2 (j + 1) (by omega), k3, k4⟩
     rw [lsV, lsV, e0]
     by_cases q : 0 < y 0
     · rw [if_pos q]
       show (if c (m a (y 0)) (m a (y 0)) = 0 then cmpF c (lsV m n (a + 1) (vtl x)) (lsV m n (a + 1) (vtl y)) else _) < 0
       rw [if_pos (hc.refl _)]; exact ih
     · rw [if_neg q]; exact ih
structure Lay {μ : Type} (G : Nw) (B : Nat → Bool) (S J : Nat) (ns nw : Nat → Nat) (stn : Nat → Stn μ) (m : Nat → Int → μ) (pos : Nat → Nat → Nat) : Prop where
 pend : pos S 0 = G.K
 pnext : ∀ i, i < S → pos (i + 1) 0 = pos i J
 pnone : ∀ i k, i < S → k < J → (stn i).way k = none → pos i (k + 1) = pos i k
 psome : ∀ i k car, i < S → k < J → (stn i).way k = some car → pos i (k + 1) = pos i k + 1 ∧ pos i k < G.K ∧ G.fr (pos i k) = ns i ∧ G.to (pos i k) = nw k ∧ G.c (pos i k) = car ∧ ∀ n, m (pos i k) n = (stn i).mv k n
 ns1 : ∀ i, i < S → ns i < G.N ∧ B (ns i) = true
 ns2 : ∀ i j, i < S → j < S → ns i = ns j → i = j
 nw1 : ∀ k, k < J → nw k < G.N ∧ B (nw k) = false
 nw2 : ∀ k j, k < J → j < J → nw k = nw j → k = j
 all : ∀ v, v < G.N → B v = false → ∃ k, k < J ∧ v = nw k
def Rs {μ : Type} (stn : Nat → Stn μ) (S J : Nat) : Nat → List UInt8 → List μ → Int → Prop
 | 0, st, suf, dc => (∀ k, k < J → st.getD k 0 = 0) ∧ suf = [] ∧ dc = 0
 | r + 1, st, suf, dc => ∃ st' s1 d1 s2 d2, Cd (stn (S - (r + 1))) J 0 st (stn (S - (r + 1))).many st' s1 d1 ∧ Rs stn S J r st' s2 d2 ∧ suf = s1 ++ s2 ∧ dc = d1 + d2
structure Rel {μ : Type} (G : Nw) (B : Nat → Bool) (S J : Nat) (ns nw : Nat → Nat) (stn : Nat → Stn μ) (i : Nat) (st : List UInt8) (left : Int) (h w : Nat → Int) : Prop where
 l0 : 0 ≤ left
 hi : i < S → h (ns i) = left
 later : ∀ j, i < j → j < S → h (ns j) = (stn j).many
 other : ∀ v, v < G.N → B v = true → (∀ j, i ≤ j → j < S → v ≠ ns j) → 0 ≤ h v
 want : ∀ k, k < J → w (nw k) = (st.getD k 0).toNat
theorem stL_get {st : List UInt8} {k j : Nat} {n : Int} (h1 : 1 ≤ n) (h2 : n ≤ (st.getD k 0).toNat) : (((stL st k n).getD j 0).toNat : Int) = (st.getD j 0).toNat - (if j = k then n else 0) := by
 unfold stL
 have hb := (st.getD k 0).toNat_lt
 have hk : k < st.length := by
  rcases Nat.lt_or_ge k st.length with q | q
  · exact q
  · rw [List.getD_eq_getElem?_getD, List.getElem?_eq_none q] at h2; simp at h2; omega
 rw [List.getD_eq_getElem?_getD, List.getElem?_set]
 by_cases q : k = j
 · subst q
   rw [if_pos rfl, if_pos rfl]
   simp only [hk, if_true, Option.getD_some]
   rw [UInt8.toNat_ofNat', Nat.mod_eq_of_lt (by omega)]
   omega
 · rw [if_neg q, if_neg (fun z => q z.symm), ← List.getD_eq_getElem?_getD]; omega
theorem les_zero (h : Nat → Int) (v : Nat) : les h v 0 = h := by funext i; rw [les_at]; split <;> omega
theorem slots_end {μ : Type} {G : Nw} {B : Nat → Bool} {S J : Nat} {ns nw : Nat → Nat} {stn : Nat → Stn μ} {m : Nat → Int → μ} {pos : Nat → Nat → Nat} (Y : Lay G B S J ns nw stn m pos) {st : List UInt8} {h w : Nat → Int} (h0 : ∀ v, v < G.N → B v = true → 0 ≤ h v) (hw : ∀ k, k < J → w (nw k) = (st.getD k 0).toNat) (suf : List μ) (dc : Int) :
 Rs stn S J 0 st suf dc ↔ ∃ x, (G.sh G.K).Fl B h w x ∧ suf = lsV m (G.K - G.K) G.K x ∧ dc = (G.sh G.K).cost x := by
 have hK : (G.sh G.K).K = 0 := by show G.K - G.K = 0; omega
 have hn : ∀ (y : Nat → Int) v, (G.sh G.K).net y v = 0 := fun y v => by unfold Nw.net; rw [hK]; rfl
 have hc : ∀ y : Nat → Int, (G.sh G.K).cost y = 0 := fun y => by unfold Nw.cost; rw [hK]; rfl
 have hl : ∀ y : Nat → Int, lsV m (G.K - G.K) G.K y = [] := fun y => by rw [Nat.sub_self]; rfl
 constructor
 · rintro ⟨z1, z2, z3⟩
   refine ⟨fun _ => 0, ⟨fun k hk => by omega, fun v hv q => by rw [hn]; exact h0 v hv q, fun v hv q => ?_⟩, by rw [hl]; exact z2, by rw [hc]; exact z3⟩
   obtain ⟨k, hk, rfl⟩ := Y.all v hv q
   rw [hn, hw k hk, z1 k hk]; rfl
 · rintro ⟨x, hx, e1, e2⟩
   refine ⟨fun k hk => ?_, by rw [e1, hl], by rw [e2, hc]⟩
   have := hx.dst _ (Y.nw1 k hk).1 (Y.nw1 k hk).2
   rw [hn, hw k hk] at this
   have h2 : (st.getD k 0).toNat = 0 := by omega
   exact UInt8.toNat_inj.1 h2
theorem Rel.less {μ : Type} {G : Nw} {B : Nat → Bool} {S J : Nat} {ns nw : Nat → Nat} {stn : Nat → Stn μ} {m : Nat → Int → μ} {pos : Nat → Nat → Nat} (Y : Lay G B S J ns nw stn m pos) {i k : Nat} (hi : i < S) (hk : k < J) {st : List UInt8} {left n : Int} {h w : Nat → Int} (hr : Rel G B S J ns nw stn i st left h w) (h1 : 1 ≤ n) (h2 : n ≤ left) (h3 : n ≤ (st.getD k 0).toNat) :
 Rel G B S J ns nw stn i (stL st k n) (left - n) (les h (ns i) n) (les w (nw k) n) := by
 refine ⟨by omega, fun _ => ?_, fun j hj hj2 => ?_, fun v hv q hn => ?_, fun j hj => ?_⟩
 · rw [les_at, if_pos rfl, hr.hi hi]
 · rw [les_at, if_neg (fun z => by have := Y.ns2 i j hi hj2 z; omega), hr.later j hj hj2]; omega
 · rw [les_at, if_neg (fun z => hn i (Nat.le_refl _) hi z.symm)]
   have := hr.other v hv q hn
   omega
 · rw [les_at, stL_get h1 h3, hr.want j hj]
   by_cases q : j = k
   · subst q; rw [if_pos rfl, if_pos rfl]
   · rw [if_neg (fun z => q (Y.nw2 k j hk hj z).symm), if_neg q]
theorem slots_slot {μ : Type} {G : Nw} {B : Nat → Bool} (hb : G.Bip B) {S J : Nat} {ns nw : Nat → Nat} {stn : Nat → Stn μ} {m : Nat → Int → μ} {pos : Nat → Nat → Nat} (Y : Lay G B S J ns nw stn m pos) {i d k : Nat} (hi : i < S) (hk : k + (d + 1) = J) (R : List UInt8 → List μ → Int → Prop)
 (ih : ∀ st left h w, Rel G B S J ns nw stn i st left h w → ∀ suf dc, (∃ st' s1 d1 s2 d2, Cd (stn i) d (k + 1) st left st' s1 d1 ∧ R st' s2 d2 ∧ suf = s1 ++ s2 ∧ dc = d1 + d2) ↔ ∃ x, (G.sh (pos i (k + 1))).Fl B h w x ∧ suf = lsV m (G.K - pos i (k + 1)) (pos i (k + 1)) x ∧ dc = (G.sh (pos i (k + 1))).cost x) :
 ∀ st left h w, Rel G B S J ns nw stn i st left h w → ∀ suf dc, (∃ st' s1 d1 s2 d2, Cd (stn i) (d + 1) k st left st' s1 d1 ∧ R st' s2 d2 ∧ suf = s1 ++ s2 ∧ dc = d1 + d2) ↔ ∃ x, (G.sh (pos i k)).Fl B h w x ∧ suf = lsV m (G.K - pos i k) (pos i k) x ∧ dc = (G.sh (pos i k)).cost x := by
 intro st left h w hr suf dc
 have hkJ : k < J := by omega
 cases hw : (stn i).way k with
 | none =>
   have hp := Y.pnone i k hi hkJ hw
   rw [hp] at ih
   rw [← ih st left h w hr suf dc]
   constructor
   · rintro ⟨st', s1, d1, s2, d2, hd, z⟩
     cases hd with
     | skip _ _ _ _ _ _ _ hd => exact ⟨st', s1, d1, s2, d2, hd, z⟩
     | some _ _ _ _ _ _ _ n car hw' _ _ _ _ => rw [hw] at hw'; cases hw'
   · rintro ⟨st', s1, d1, s2, d2, hd, z⟩
     exact ⟨st', s1, d1, s2, d2, .skip d k st left st' s1 d1 hd, z⟩
 | some car =>
   obtain ⟨p1, p2, p3, p4, p5, p6⟩ := Y.psome i k car hi hkJ hw
   rw [p1] at ih
   have hKs : G.K - pos i k = (G.K - (pos i k + 1)) + 1 := by omega
   constructor
   · rintro ⟨st', s1, d1, s2, d2, hd, hR, rfl, rfl⟩
     cases hd with
     | skip _ _ _ _ _ _ _ hd =>
       obtain ⟨x, hx, e1, e2⟩ := (ih st left h w hr (s1 ++ s2) (d1 + d2)).1 ⟨st', s1, d1, s2, d2, hd, hR, rfl, rfl⟩
       refine ⟨vcons 0 x, (Nw.fl_cons hb p2).2 ⟨Int.le_refl _, ?_⟩, ?_, ?_⟩
       · show (G.sh (pos i k + 1)).Fl B (les h (G.fr (pos i k)) 0) (les w (G.to (pos i k)) 0) x
         rw [les_zero, les_zero]; exact hx
       · rw [hKs, lsV, if_neg (by show ¬ (0 : Int) < 0; omega)]; exact e1
       · rw [Nw.cost_cons p2]
         show _ = 0 * G.c (pos i k) + (G.sh (pos i k + 1)).cost x
         omega
     | some _ _ _ _ _ s1 d1 n car' hw' g1 g2 g3 hd =>
       rw [hw] at hw'; cases hw'
       obtain ⟨x, hx, e1, e2⟩ := (ih (stL st k n) (left - n) (les h (ns i) n) (les w (nw k) n) (hr.less Y hi hkJ g1 g2 g3) (s1 ++ s2) (d1 + d2)).1 ⟨st', s1, d1, s2, d2, hd, hR, rfl, rfl⟩
       refine ⟨vcons n x, (Nw.fl_cons hb p2).2 ⟨by show 0 ≤ n; omega, ?_⟩, ?_, ?_⟩
       · show (G.sh (pos i k + 1)).Fl B (les h (G.fr (pos i k)) n) (les w (G.to (pos i k)) n) x
         rw [p3, p4]; exact hx
       · rw [hKs, lsV, if_pos (by show (0 : Int) < n; omega)]
         show (stn i).mv k n :: s1 ++ s2 = [m (pos i k) n] ++ lsV m (G.K - (pos i k + 1)) (pos i k + 1) x
         rw [p6, ← e1]; rfl
       · rw [Nw.cost_cons p2]
         show _ = n * G.c (pos i k) + (G.sh (pos i k + 1)).cost x
         rw [p5]; omega
   · rintro ⟨x, hx, e1, e2⟩
     have hf := hx.first hb p2
     obtain ⟨h0, hx2⟩ := (Nw.fl_cons hb p2).1 hx
     rw [p3, p4] at hf hx2
     rw [hr.hi hi, hr.want k hkJ] at hf
     rw [hKs, lsV] at e1
     rw [Nw.cost_cons p2, p5] at e2
     by_cases q : 0 < x 0
     · obtain ⟨st', s1, d1, s2, d2, hd, hR, f1, f2⟩ := (ih (stL st k (x 0)) (left - x 0) (les h (ns i) (x 0)) (les w (nw k) (x 0)) (hr.less Y hi hkJ (by omega) (by omega) (by omega)) _ _).2 ⟨vtl x, hx2, rfl, rfl⟩
       refine ⟨st', (stn i).mv k (x 0) :: s1, x 0 * car + d1, s2, d2, .some d k st left st' s1 d1 (x 0) car hw (by omega) (by omega) (by omega) hd, hR, ?_, by omega⟩
       rw [e1, if_pos q, p6, f1]; rfl
     · have q0 : x 0 = 0 := by omega
       rw [q0, les_zero, les_zero] at hx2
       obtain ⟨st', s1, d1, s2, d2, hd, hR, f1, f2⟩ := (ih st left h w hr _ _).2 ⟨vtl x, hx2, rfl, rfl⟩
       refine ⟨st', s1, d1, s2, d2, .skip d k st left st' s1 d1 hd, hR, ?_, ?_⟩
       · rw [e1, if_neg q, List.nil_append, f1]
       · rw [e2, q0, Int.zero_mul]; omega
theorem slots {μ : Type} {G : Nw} {B : Nat → Bool} (hb : G.Bip B) {S J : Nat} {ns nw : Nat → Nat} {stn : Nat → Stn μ} {m : Nat → Int → μ} {pos : Nat → Nat → Nat} (Y : Lay G B S J ns nw stn m pos) (hm : ∀ i, i < S → 0 ≤ (stn i).many) :
 ∀ r i, i + (r + 1) = S → ∀ d k, k + d = J → ∀ st left h w, Rel G B S J ns nw stn i st left h w → ∀ suf dc,
 (∃ st' s1 d1 s2 d2, Cd (stn i) d k st left st' s1 d1 ∧ Rs stn S J r st' s2 d2 ∧ suf = s1 ++ s2 ∧ dc = d1 + d2) ↔ ∃ x, (G.sh (pos i k)).Fl B h w x ∧ suf = lsV m (G.K - pos i k) (pos i k) x ∧ dc = (G.sh (pos i k)).cost x := by
 intro r
 induction r with
 | zero =>
   intro i hi d
   induction d with
   | zero =>
     intro k hk st left h w hr suf dc
     have hkJ : k = J := by omega
     subst hkJ
     have hp : pos i k = G.K := by rw [← Y.pend, ← Y.pnext i (by omega), show i + 1 = S by omega]
     rw [hp, ← slots_end Y (st := st) (fun v hv q => ?_) hr.want suf dc]
     · constructor
       · rintro ⟨st', s1, d1, s2, d2, hd, hs, rfl, rfl⟩
         cases hd
         simpa using hs
       · intro hs
         exact ⟨st, [], 0, suf, dc, .fin k st left, hs, by simp, by simp⟩
     · by_cases z : v = ns i
       · rw [z, hr.hi (by omega)]; exact hr.l0
       · exact hr.other v hv q (fun j h1 h2 => by rw [show j = i by omega]; exact z)
   | succ d ih => exact fun k hk => slots_slot hb Y (by omega) hk (Rs stn S J 0) (ih (k + 1) (by omega))
 | succ r ihr =>
   intro i hi d
   induction d with
   | zero =>
     intro k hk st left h w hr suf dc
     have hkJ : k = J := by omega
     subst hkJ
     have hi1 : i + 1 < S := by omega
     have h1 := ihr (i + 1) (by omega) k 0 (by omega) st (stn (i + 1)).many h w ⟨hm _ hi1, fun _ => hr.later (i + 1) (by omega) hi1, fun j hj hj2 => hr.later j (by omega) hj2, fun v hv q hn => ?_, hr.want⟩ suf dc
     · rw [← Y.pnext i (by omega), ← h1]
       have e : S - (r + 1) = i + 1 := by omega
       constructor
       · rintro ⟨st', s1, d1, s2, d2, hd, hs, rfl, rfl⟩
         cases hd
         rw [Rs, e] at hs
         obtain ⟨st2, t1, e1, t2, e2, hd2, hs2, f1, f2⟩ := hs
         exact ⟨st2, t1, e1, t2, e2, hd2, hs2, by rw [f1]; rfl, by omega⟩
       · rintro ⟨st2, t1, e1, t2, e2, hd2, hs2, rfl, rfl⟩
         refine ⟨st, [], 0, t1 ++ t2, e1 + e2, .fin k st left, ?_, rfl, by omega⟩
         rw [Rs, e]
         exact ⟨st2, t1, e1, t2, e2, hd2, hs2, rfl, rfl⟩
     · by_cases z : v = ns i
       · rw [z, hr.hi (by omega)]; exact hr.l0
       · exact hr.other v hv q (fun j h1 h2 => by
          rcases Nat.lt_or_ge i j with w | w
          · exact hn j (by omega) h2
          · rw [show j = i by omega]; exact z)
   | succ d ih => exact fun k hk => slots_slot hb Y (by omega) hk (Rs stn S J (r + 1)) (ih (k + 1) (by omega))
def firstL {μ : Type} (stn : Nat → Stn μ) : Nat → List (Stn μ)
 | 0 => []
 | i + 1 => stn i :: firstL stn i
theorem firstL_mem {μ : Type} {stn : Nat → Stn μ} {s : Stn μ} : ∀ {n : Nat}, s ∈ firstL stn n → ∃ i, i < n ∧ s = stn i
 | 0, h => by cases h
 | n + 1, h => by
   rcases List.mem_cons.1 h with q | q
   · exact ⟨n, by omega, q⟩
   · obtain ⟨i, h1, h2⟩ := firstL_mem q; exact ⟨i, by omega, h2⟩
theorem rs_full {μ : Type} {stn : Nat → Stn μ} {S J : Nat} {σ0 : List UInt8} {s : List μ} {d : Int} : ∀ i, i ≤ S → (Rs stn S J S σ0 s d ↔ ∃ σ p suf dc, Full J σ0 (firstL stn i) σ p ∧ Rs stn S J (S - i) σ suf dc ∧ s = p.l ++ suf ∧ d = p.cost + dc) := by
 intro i
 induction i with
 | zero =>
   intro _
   constructor
   · intro h; exact ⟨σ0, ⟨[], 0⟩, s, d, ⟨rfl, rfl⟩, h, rfl, by show d = 0 + d; omega⟩
   · rintro ⟨σ, p, suf, dc, ⟨rfl, rfl⟩, h, e1, e2⟩
     have e1 : s = suf := e1
     have e2 : d = 0 + dc := e2
     rw [e1, e2, Int.zero_add]; exact h
 | succ i ih =>
   intro hi
   rw [ih (by omega)]
   have e1 : S - i = (S - (i + 1)) + 1 := by omega
   have e2 : S - (S - (i + 1) + 1) = i := by omega
   constructor
   · rintro ⟨σ, p, suf, dc, hf, hr, rfl, rfl⟩
     rw [e1, Rs, e2] at hr
     obtain ⟨st', s1, d1, s2, d2, hd, hr2, rfl, rfl⟩ := hr
     exact ⟨st', p.app s1 d1, s2, d2, ⟨σ, p, s1, d1, hf, hd, rfl⟩, hr2, by unfold Pla.app; simp, by unfold Pla.app; show p.cost + (d1 + d2) = p.cost + d1 + d2; omega⟩
   · rintro ⟨σ', p', suf, dc, ⟨σ, p, s1, d1, hf, hd, rfl⟩, hr, rfl, rfl⟩
     refine ⟨σ, p, s1 ++ suf, d1 + dc, hf, ?_, by unfold Pla.app; simp, by unfold Pla.app; show p.cost + d1 + dc = p.cost + (d1 + dc); omega⟩
     rw [e1, Rs, e2]
     exact ⟨σ', s1, d1, suf, dc, hd, hr, rfl, rfl⟩
theorem cd_len {μ : Type} {s : Stn μ} {d k : Nat} {st st' : List UInt8} {left dc : Int} {suf : List μ} (h : Cd s d k st left st' suf dc) : st'.length = st.length := by
 induction h with
 | fin => rfl
 | skip _ _ _ _ _ _ _ _ ih => exact ih
 | some _ _ _ _ _ _ _ _ _ _ _ _ _ _ ih => rw [ih]; unfold stL; rw [List.length_set]
theorem full_len {μ : Type} {J : Nat} {σ0 : List UInt8} : ∀ {L : List (Stn μ)} {σ p}, Full J σ0 L σ p → σ.length = σ0.length
 | [], _, _, h => by rw [h.1]
 | _ :: _, _, _, ⟨_, _, _, _, h1, h2, _⟩ => by rw [cd_len h2, full_len h1]
theorem zero_state {J : Nat} {σ : List UInt8} (h : σ.length = J) : (∀ k, k < J → σ.getD k 0 = 0) ↔ σ = List.replicate J 0 := by
 constructor
 · intro z
   refine List.ext_getElem (by simp [h]) (fun k h1 h2 => ?_)
   have := z k (by omega)
   rw [List.getD_eq_getElem?_getD, List.getElem?_eq_getElem h1] at this
   simpa using this
 · rintro rfl k hk
   simp [List.getD_eq_getElem?_getD, hk]
theorem Nw.sh_zero (G : Nw) : G.sh 0 = G := by
 cases G
 simp [Nw.sh]
theorem bef_tot : ∀ {n : Nat} {x y : Nat → Int}, (∀ k, k < n → 0 ≤ x k) → (∀ k, k < n → 0 ≤ y k) → (∀ k, k < n → y k = x k) ∨ Bef n x y ∨ Bef n y x
 | 0, _, _, _, _ => .inl fun k hk => by omega
 | n + 1, x, y, hx, hy => by
   rcases bef_tot (n := n) (fun k hk => hx k (by omega)) (fun k hk => hy k (by omega)) with h | ⟨k, h1, h2⟩ | ⟨k, h1, h2⟩
   · have a := hx n (by omega)
     have b := hy n (by omega)
     by_cases q : x n = y n
     · left; intro k hk
       rcases Nat.lt_or_ge k n with w | w
       · exact h k w
       · rw [show k = n by omega]; exact q.symm
     · right
       by_cases w : 1 ≤ x n ∧ (y n = 0 ∨ x n < y n)
       · left; exact ⟨n, by omega, fun j hj => (h j hj).symm, w⟩
       · right; exact ⟨n, by omega, fun j hj => h j hj, by omega, by omega⟩
   · exact .inr (.inl ⟨k, by omega, h2⟩)
   · exact .inr (.inr ⟨k, by omega, h2⟩)
theorem full_fl {μ : Type} {G : Nw} {B : Nat → Bool} (hb : G.Bip B) {S J : Nat} {ns nw : Nat → Nat} {stn : Nat → Stn μ} {m : Nat → Int → μ} {pos : Nat → Nat → Nat} (Y : Lay G B S J ns nw stn m pos) (hp0 : pos 0 0 = 0) (hm : ∀ i, i < S → 0 ≤ (stn i).many) {σ0 : List UInt8} (hl : σ0.length = J) {h w : Nat → Int}
 (hh : ∀ i, i < S → h (ns i) = (stn i).many) (ho : ∀ v, v < G.N → B v = true → (∀ j, j < S → v ≠ ns j) → 0 ≤ h v) (hw : ∀ k, k < J → w (nw k) = (σ0.getD k 0).toNat) (p : Pla μ) :
 Full J σ0 (firstL stn S) (List.replicate J 0) p ↔ ∃ x, G.Fl B h w x ∧ p.l = lsV m G.K 0 x ∧ p.cost = G.cost x := by
 have h1 : Rs stn S J S σ0 p.l p.cost ↔ ∃ x, G.Fl B h w x ∧ p.l = lsV m G.K 0 x ∧ p.cost = G.cost x := by
  cases S with
  | zero =>
    have hK : G.K = 0 := by rw [← Y.pend, hp0]
    have := slots_end Y (st := σ0) (fun v hv q => ho v hv q (fun j hj => by omega)) hw p.l p.cost
    rw [hK, G.sh_zero] at this
    rw [this, hK]
  | succ r =>
    have h2 := slots hb Y hm r 0 (by omega) J 0 (by omega) σ0 (stn 0).many h w ⟨hm 0 (by omega), fun _ => hh 0 (by omega), fun j _ hj => hh j hj, fun v hv q hn => ho v hv q (fun j hj => hn j (by omega) hj), hw⟩ p.l p.cost
    rw [hp0, G.sh_zero, Nat.sub_zero] at h2
    rw [← h2, Rs, show r + 1 - (r + 1) = 0 by omega]
 rw [← h1, rs_full S (Nat.le_refl _), Nat.sub_self]
 constructor
 · intro hf
   exact ⟨_, p, [], 0, hf, ⟨(zero_state (by simp)).2 rfl, rfl, rfl⟩, by simp, by simp⟩
 · rintro ⟨σ, q, suf, dc, hf, ⟨z1, rfl, rfl⟩, e1, e2⟩
   have e : σ = List.replicate J 0 := (zero_state (by rw [full_len hf, hl])).1 z1
   have : p = q := by cases p; cases q; simp at e1 e2; rw [e1, e2]
   rw [this, ← e]; exact hf
theorem planOf_best {μ : Type} {c : μ → μ → Int} (hc : COrd c) {num : μ → Int} {G : Nw} {B : Nat → Bool} (hb : G.Bip B) {S J : Nat} {ns nw : Nat → Nat} {stn : Nat → Stn μ} {m : Nat → Int → μ} {pos : Nat → Nat → Nat} (Y : Lay G B S J ns nw stn m pos) (hp0 : pos 0 0 = 0) (hm : ∀ i, i < S → 0 ≤ (stn i).many) {σ0 : List UInt8} (hl : σ0.length = J) {h w : Nat → Int}
 (hh : ∀ i, i < S → h (ns i) = (stn i).many) (ho : ∀ v, v < G.N → B v = true → (∀ j, j < S → v ≠ ns j) → 0 ≤ h v) (hw : ∀ k, k < J → w (nw k) = (σ0.getD k 0).toNat)
 (hn : ∀ a v, num (m a v) = v) (hns : ∀ i k n, num ((stn i).mv k n) = n) (h1 : ∀ a u v, u < v → c (m a u) (m a v) < 0) (h2 : ∀ a b u v, a < b → b < G.K → c (m a u) (m b v) < 0) {now : PMap μ} (hnow : MinOf c now (Full J σ0 (firstL stn S))) :
 match now (List.replicate J 0) with
 | none => ∀ x, ¬ G.Fl B h w x
 | some q => ∃ x, G.Best B h w q.cost x ∧ q.l = lsV m G.K 0 x := by
 have hf := fun p => full_fl hb Y hp0 hm hl hh ho hw p
 have h3 := hnow (List.replicate J 0)
 cases q : now (List.replicate J 0) with
 | none =>
   rw [q] at h3
   intro x hx
   exact h3 ⟨lsV m G.K 0 x, G.cost x⟩ ((hf _).2 ⟨x, hx, rfl, rfl⟩)
 | some r =>
   rw [q] at h3
   obtain ⟨h4, h5⟩ := h3
   obtain ⟨x, hx, e1, e2⟩ := (hf r).1 h4
   refine ⟨x, ⟨hx, e2.symm, fun y hy => ?_, fun y hy hyc => ?_⟩, e1⟩
   · have := h5 ⟨lsV m G.K 0 y, G.cost y⟩ ((hf _).2 ⟨y, hy, rfl, rfl⟩)
     rw [Bool.eq_false_iff] at this
     rcases Int.lt_or_le (G.cost y) r.cost with z | z
     · exact absurd (lessP_iff.2 (.inl z)) this
     · exact z
   · have hfy : Full J σ0 (firstL stn S) (List.replicate J 0) ⟨lsV m G.K 0 y, G.cost y⟩ := (hf _).2 ⟨y, hy, rfl, rfl⟩
     have hless := h5 _ hfy
     rw [Bool.eq_false_iff] at hless
     have hnn : ∀ s ∈ firstL stn S, ∀ k n, num (s.mv k n) = n := fun s hs k n => by obtain ⟨i, _, rfl⟩ := firstL_mem hs; exact hns i k n
     have t1 := (full_tot hnn h4).1
     have t2 := (full_tot hnn hfy).1
     have t2 : totL num (lsV m G.K 0 y) + _ = _ := t2
     rw [e1, lsV_tot hn G.K 0 x hx.g0] at t1
     rw [lsV_tot hn G.K 0 y hy.g0] at t2
     rcases bef_tot hx.g0 hy.g0 with z | z | z
     · exact .inl z
     · exact .inr z
     · exfalso
       apply hless
       rw [lessP_iff]
       right
       refine ⟨hyc, ?_⟩
       rw [e1]
       exact bef_ls hc hn h1 h2 G.K 0 y x (by omega) hy.g0 hx.g0 (by omega) z
def oVCoA30_4 : List (Nat × List Nat) := [(0, []), (1, []), (2, []), (3, []), (4, []), (5, [0, 1, 2, 3, 4]), (6, [0, 1, 2, 3, 4]), (7, [0, 1, 2, 3, 4]), (8, [0, 1, 2, 3, 4]), (9, [0, 1, 2, 3, 4]), (10, []), (11, [])]
def oVCoA30_5 : List (Nat × List Nat) := [(0, []), (1, []), (2, []), (3, []), (4, []), (5, [0, 1, 2, 3, 4]), (6, [0, 1, 2, 3, 4]), (7, [0, 1, 2, 3, 4]), (8, [0, 1, 2, 3, 4]), (9, [0, 1, 2, 3, 4]), (10, []), (11, [])]
def eqTab : List Nat := [70, 92, 121, 157]
theorem eqTab_ok : eqTab.all (eqFits Tryz.prog) = true := by decide +kernel
noncomputable def T : Tab := tiOf Tryz.prog (mem eqTab)
theorem hT : TabOk Tryz.prog T := ⟨mem eqTab, fun _ _ h => h, fun t ht => List.all_eq_true.1 eqTab_ok t ((mem_iff _ _).1 ht)⟩
abbrev i64 (n : Int) : DV := .int .i64 n
def strm (n : Nat) (L : Nat → Int) (at' : Int) : Res := .cells 25 [.d (.ro 1 n fun i => [.int .i64 (L i)]), .d (.int .i64 at')]
def Rok (n : Nat) (L : Nat → Int) : Prop := n ≤ maxLen ∧ ∀ i, -2^63 ≤ L i ∧ L i < 2^63
theorem s148 (x n : Int) (hn : n ≤ 2^40) : FSpec Tryz.prog 68 [.d (.int .i64 x), .d (.int .i64 n)] [] (fun y r => (∃ m : Int, 0 ≤ m ∧ (1 ≤ n → m < n) ∧ (n < 1 → m = 0) ∧ y = .d (.int .i64 m)) ∧ r = []) := by
 refine spec_of hT (C := []) Tryz.func68 rfl Tryz.call68 rfl rfl rfl ?_
 conv => whnf
 refine br_intro (fun h => ?_) (fun h => ?_)
 · conv => whnf
   refine .ret _ ?_
   conv => whnf
   refine ⟨[], ⟨⟨_, ?_, ?_, ?_, rfl⟩, rfl⟩, trivial⟩
   all_goals (simp at h; omega)
 · conv => whnf
   refine ⟨?_, ?_⟩
   · simp at h; omega
   conv => whnf
   simp at h
   have h1 := Int.tmod_lt_of_pos x (b := n) (by omega)
   have h2 := Int.lt_tmod_of_pos x (b := n) (by omega)
   refine br_intro (fun h2 => ?_) (fun h2 => ?_)
   · conv => whnf
     simp at h2
     refine ⟨?_, ?_⟩
     · unfold inI64; omega
     · conv => whnf
       refine .ret _ ?_
       conv => whnf
       refine ⟨[], ⟨⟨_, ?_, ?_, ?_, rfl⟩, rfl⟩, trivial⟩
       all_goals omega
   · conv => whnf
     simp at h2
     refine .ret _ ?_
     conv => whnf
     refine ⟨[], ⟨⟨_, ?_, ?_, ?_, rfl⟩, rfl⟩, trivial⟩
     all_goals omega
theorem nextB {a n : Int} (h0 : 0 ≤ a) (hn : 1 ≤ n) : 0 ≤ a.tdiv n ∧ a.tdiv n ≤ a ∧ 0 ≤ a.tmod n ∧ a.tmod n < n ∧ 0 ≤ a.tdiv n * a.tmod n ∧ a.tdiv n * a.tmod n ≤ a ∧ a.tmod n ≤ a := by
 have h1 : 0 ≤ a.tdiv n := Int.tdiv_nonneg h0 (by omega)
 have h2 : 0 ≤ a.tmod n := Int.tmod_nonneg _ h0
 have h3 : a.tmod n < n := Int.tmod_lt_of_pos _ (by omega)
 have h4 := Int.tmod_add_mul_tdiv a n
 have h5 : a.tdiv n * 1 ≤ a.tdiv n * n := Int.mul_le_mul_of_nonneg_left hn h1
 have h6 : a.tdiv n * a.tmod n ≤ a.tdiv n * n := Int.mul_le_mul_of_nonneg_left (by omega) h1
 have h7 : 0 ≤ a.tdiv n * a.tmod n := Int.mul_nonneg h1 h2
 rw [Int.mul_comm] at h4
 have h8 : 0 ≤ a.tdiv n * n := Int.mul_nonneg h1 (by omega)
 refine ⟨h1, ?_, h2, h3, h7, ?_, ?_⟩ <;> omega
theorem s86 (n : Nat) (L : Nat → Int) (hL : Rok n L) (a : Int) (h0 : 0 ≤ a) (ha : a ≤ 2^40) (m : Int) (hm : m ≤ 2^40) :
 FSpec Tryz.prog 30 [.ptr 1000000 0, .d (.int .i64 m)] [(1000000, strm n L a)] (fun y r => (∃ j : Int, 0 ≤ j ∧ (1 ≤ m → j < m) ∧ (m < 1 → j = 0) ∧ y = .d (.int .i64 j)) ∧ r = [(1000000, strm n L (a + 1))]) := by
 refine spec_of hT (C := []) Tryz.func30 rfl Tryz.call30 rfl rfl rfl ?_
 conv => whnf
 refine ⟨by unfold inI64; omega, ?_⟩
 conv => whnf
 refine br_intro (fun h => ?_) (fun h => ?_)
 · conv => whnf
   refine ⟨by unfold inI64; omega, ?_⟩
   conv => whnf
   refine CallX.of (s148 _ _ hm) [] rfl ⟨lr, lr, trivial⟩ trivial rfl rfl ?_
   rintro x rout ⟨⟨j, j1, j2, j3, rfl⟩, rfl⟩
   refine ⟨rfl, ?_⟩
   conv => whnf
   refine .ret _ ?_
   conv => whnf
   exact ⟨[(1000000, strm n L (a + 1))], ⟨⟨_, j1, j2, j3, rfl⟩, rfl⟩, rr, trivial⟩
 · conv => whnf
   simp at h
   have hnp : (1:Int) ≤ n := by omega
   refine RegX.rule hT rfl [] oVCoA30_4 (by decide +kernel) ?_
   conv => whnf
   refine ⟨by unfold inI64; omega, ?_⟩
   conv => whnf
   refine ⟨by omega, ?_⟩
   conv => whnf
   have ea : a + 1 - 1 = a := by omega
   obtain ⟨b1, b2, b3, b4, b5, b6, b7⟩ := nextB h0 hnp
   refine RegX.rule hT rfl [] oVCoA30_5 (by decide +kernel) ?_
   conv => whnf
   refine ⟨by unfold inI64; omega, ?_⟩
   conv => whnf
   refine ⟨by omega, ?_⟩
   conv => whnf
   refine ⟨by unfold inI64; rw [ea]; omega, ?_⟩
   conv => whnf
   rw [ea]
   refine ⟨⟨b3, b4⟩, ?_⟩
   conv => whnf
   refine CallX.of (s148 _ _ (by omega)) [] rfl ⟨lr, lr, trivial⟩ trivial rfl rfl ?_
   rintro x rout ⟨⟨j, j1, j2, j3, rfl⟩, rfl⟩
   refine ⟨rfl, ?_⟩
   conv => whnf
   refine ⟨by unfold inI64; omega, ?_⟩
   conv => whnf
   have e2 : a.tdiv n * (7919 + a.tmod n) = 7919 * a.tdiv n + a.tdiv n * a.tmod n := by rw [Int.mul_add, Int.mul_comm _ 7919]
   rw [e2]
   refine ⟨by unfold inI64; omega, ?_⟩
   conv => whnf
   refine ⟨by unfold inI64; omega, ?_⟩
   conv => whnf
   refine CallX.of (s148 _ _ hm) [] rfl ⟨lr, lr, trivial⟩ trivial rfl rfl ?_
   rintro x rout ⟨⟨j, k1, k2, k3, rfl⟩, rfl⟩
   refine ⟨rfl, ?_⟩
   conv => whnf
   refine .ret _ ?_
   conv => whnf
   exact ⟨[(1000000, strm n L (a + 1))], ⟨⟨_, k1, k2, k3, rfl⟩, rfl⟩, rr, trivial⟩
def Moved (n : Nat) (L : Nat → Int) (a : Int) (c : Int) (r : List (Nat × Res)) : Prop := ∃ b, a ≤ b ∧ b ≤ a + c ∧ r = [(1000000, strm n L b)]
theorem s64 (n : Nat) (L : Nat → Int) (hL : Rok n L) (a : Int) (h0 : 0 ≤ a) (ha : a ≤ 2^40) (lo hi : Int) (h1 : -2^41 ≤ lo) (h2 : hi ≤ lo + 2^40 - 1) (h3 : lo ≤ 2^41) (h4 : lo ≤ hi) :
 FSpec Tryz.prog 34 [.ptr 1000000 0, .d (.int .i64 lo), .d (.int .i64 hi)] [(1000000, strm n L a)] (fun y r => (∃ j : Int, lo ≤ j ∧ j ≤ hi ∧ y = .d (.int .i64 j)) ∧ Moved n L a 1 r) := by
 refine spec_of hT (C := []) Tryz.func34 rfl Tryz.call34 rfl rfl rfl ?_
 conv => whnf
 refine br_intro (fun h => ?_) (fun h => ?_)
 · simp at h; omega
 conv => whnf
 refine ⟨by unfold inI64; omega, ?_⟩
 conv => whnf
 refine ⟨by unfold inI64; omega, ?_⟩
 conv => whnf
 refine CallX.of (s86 n L hL a h0 ha _ (by omega)) [(1000000, 1000000)] rfl ⟨lr, lr, trivial⟩ ⟨rr, trivial⟩ rfl rfl ?_
 rintro x rout ⟨⟨j, k1, k2, k3, rfl⟩, rfl⟩
 refine ⟨rfl, ?_⟩
 conv => whnf
 refine ⟨by unfold inI64; omega, ?_⟩
 conv => whnf
 refine .ret _ ?_
 conv => whnf
 exact ⟨[(1000000, strm n L (a + 1))], ⟨⟨_, by omega, by omega, rfl⟩, a + 1, by omega, by omega, rfl⟩, rr, trivial⟩
theorem s84 (n : Nat) (L : Nat → Int) (hL : Rok n L) (a : Int) (h0 : 0 ≤ a) (ha : a ≤ 2^40) (m : Int) (hm : m ≤ 2^40) :
 FSpec Tryz.prog 21 [.ptr 1000000 0, .d (.int .i64 m)] [(1000000, strm n L a)] (fun y r => (∃ b : Bool, y = .d (.bool b)) ∧ Moved n L a 1 r) := by
 refine spec_of hT (C := []) Tryz.func21 rfl Tryz.call21 rfl rfl rfl ?_
 conv => whnf
 refine CallX.of (s86 n L hL a h0 ha _ (by omega)) [(1000000, 1000000)] rfl ⟨lr, lr, trivial⟩ ⟨rr, trivial⟩ rfl rfl ?_
 rintro x rout ⟨⟨j, k1, k2, k3, rfl⟩, rfl⟩
 refine ⟨rfl, ?_⟩
 conv => whnf
 refine .ret _ ?_
 conv => whnf
 exact ⟨[(1000000, strm n L (a + 1))], ⟨⟨_, rfl⟩, a + 1, by omega, by omega, rfl⟩, rr, trivial⟩
theorem s33 (n : Nat) (L : Nat → Int) (hL : Rok n L) (a : Int) (h0 : 0 ≤ a) (ha : a ≤ 2^40) (l : List Int) (hl : 1 ≤ l.length) (hl2 : l.length ≤ 2^40) :
 FSpec Tryz.prog 29 [.ptr 1000000 0, .d (ints l)] [(1000000, strm n L a)] (fun y r => (∃ x ∈ l, y = .d (.int .i64 x)) ∧ Moved n L a 1 r) := by
 refine spec_of hT (C := []) Tryz.func29 rfl Tryz.call29 rfl rfl rfl ?_
 conv => whnf
 refine CallX.of (s86 n L hL a h0 ha l.length (by omega)) [(1000000, 1000000)] rfl ⟨lr, lr, trivial⟩ ⟨rr, trivial⟩ rfl rfl ?_
 rintro x rout ⟨⟨j, k1, k2, k3, rfl⟩, rfl⟩
 refine ⟨rfl, ?_⟩
 conv => whnf
 refine ⟨⟨k1, by omega⟩, ?_⟩
 conv => whnf
 refine .ret _ ?_
 conv => whnf
 exact ⟨[(1000000, strm n L (a + 1))], ⟨⟨_, getD_mem (by omega), rfl⟩, a + 1, by omega, by omega, rfl⟩, rr, trivial⟩
theorem s15 (n : Nat) (L : Nat → Int) (hL : Rok n L) (a : Int) (h0 : 0 ≤ a) (ha : a ≤ 2^40) (l : List (List UInt8)) (hl : 1 ≤ l.length) (hl2 : l.length ≤ 2^40) :
 FSpec Tryz.prog 31 [.ptr 1000000 0, .d (strs l)] [(1000000, strm n L a)] (fun y r => (∃ x ∈ l, y = .d (.str x)) ∧ Moved n L a 1 r) := by
 refine spec_of hT (C := []) Tryz.func31 rfl Tryz.call31 rfl rfl rfl ?_
 conv => whnf
 refine CallX.of (s86 n L hL a h0 ha l.length (by omega)) [(1000000, 1000000)] rfl ⟨lr, lr, trivial⟩ ⟨rr, trivial⟩ rfl rfl ?_
 rintro x rout ⟨⟨j, k1, k2, k3, rfl⟩, rfl⟩
 refine ⟨rfl, ?_⟩
 conv => whnf
 refine ⟨⟨k1, by omega⟩, ?_⟩
 conv => whnf
 refine .ret _ ?_
 conv => whnf
 exact ⟨[(1000000, strm n L (a + 1))], ⟨⟨_, getD_mem (by omega), rfl⟩, a + 1, by omega, by omega, rfl⟩, rr, trivial⟩
theorem Moved.trans {n : Nat} {L : Nat → Int} {a c : Int} {r : List (Nat × Res)} {b d : Int} (h1 : a ≤ b) (h2 : b + d ≤ a + c) (h : Moved n L b d r) : Moved n L a c r := by
 obtain ⟨e, q1, q2, rfl⟩ := h
 exact ⟨e, by omega, by omega, rfl⟩
theorem s104 (n : Nat) (L : Nat → Int) (hL : Rok n L) (a : Int) (h0 : 0 ≤ a) (ha : a ≤ 2^39) (lo hi : Int) (h1 : -2^38 ≤ lo) (h2 : lo ≤ hi) (h3 : hi ≤ 2^39) :
 FSpec Tryz.prog 32 [.ptr 1000000 0, .d (.int .i64 lo), .d (.int .i64 hi)] [(1000000, strm n L a)] (fun y r => (∃ j : Int, -2^40 ≤ j ∧ j ≤ 2^40 ∧ y = .d (.int .i64 j)) ∧ Moved n L a 2 r) := by
 refine spec_of hT (C := []) Tryz.func32 rfl Tryz.call32 rfl rfl rfl ?_
 conv => whnf
 refine CallX.of (s84 n L hL a h0 (by omega) 12 (by omega)) [(1000000, 1000000)] rfl ⟨lr, lr, trivial⟩ ⟨rr, trivial⟩ rfl rfl ?_
 rintro x rout ⟨⟨f, rfl⟩, ⟨b, b1, b2, rfl⟩⟩
 refine ⟨rfl, ?_⟩
 conv => whnf
 refine br_intro (fun hf => ?_) (fun hf => ?_)
 · conv => whnf
   refine ⟨by unfold inI64; omega, ?_⟩
   conv => whnf
   refine ⟨by unfold inI64; omega, ?_⟩
   conv => whnf
   refine CallX.of (s33 n L hL b (by omega) (by omega) [lo - 1, hi + 1, lo, hi, -1099511627776, 1099511627776] (by simp) (by simp)) [(1000000, 1000000)] rfl ⟨lr, SV.le_lit (by rfl) (by rfl), trivial⟩ ⟨rr, trivial⟩ rfl rfl ?_
   rintro x rout ⟨⟨j, hj, rfl⟩, ⟨c, c1, c2, rfl⟩⟩
   refine ⟨rfl, ?_⟩
   conv => whnf
   refine .ret _ ?_
   conv => whnf
   exact ⟨[(1000000, strm n L c)], ⟨⟨j, by simp at hj; omega, by simp at hj; omega, rfl⟩, c, by omega, by omega, rfl⟩, rr, trivial⟩
 · conv => whnf
   refine CallX.of (s64 n L hL b (by omega) (by omega) lo hi (by omega) (by omega) (by omega) h2) [(1000000, 1000000)] rfl ⟨lr, lr, lr, trivial⟩ ⟨rr, trivial⟩ rfl rfl ?_
   rintro x rout ⟨⟨j, j1, j2, rfl⟩, ⟨c, c1, c2, rfl⟩⟩
   refine ⟨rfl, ?_⟩
   conv => whnf
   refine .ret _ ?_
   conv => whnf
   exact ⟨[(1000000, strm n L c)], ⟨⟨j, by omega, by omega, rfl⟩, c, by omega, by omega, rfl⟩, rr, trivial⟩
theorem s119 (n lo hi : Int) : FSpec Tryz.prog 48 [.d (.int .i64 n), .d (.int .i64 lo), .d (.int .i64 hi)] [] (fun x r => x = .d (.bool (decide (lo ≤ n ∧ n ≤ hi))) ∧ r = []) := by
 refine spec_of hT (C := []) Tryz.func48 rfl Tryz.call48 rfl rfl rfl ?_
 conv => whnf
 refine br_intro (fun h => ?_) (fun h => ?_)
 · conv => whnf
   refine .ret _ ?_
   conv => whnf
   refine ⟨[], ⟨?_, rfl⟩, trivial⟩
   conv => lhs; whnf
   simp at h ⊢; simp [h]
 · conv => whnf
   refine .ret _ ?_
   conv => whnf
   refine ⟨[], ⟨?_, rfl⟩, trivial⟩
   conv => lhs; whnf
   simp at h ⊢; omega
theorem s109 (n lo hi : Int) : FSpec Tryz.prog 45 [.d (.int .i64 n), .d (.int .i64 lo), .d (.int .i64 hi)] [] (fun x r => x = .d (.bool (decide (lo ≤ n ∧ n ≤ hi))) ∧ r = []) := by
 refine spec_of hT (C := []) Tryz.func45 rfl Tryz.call45 rfl rfl rfl ?_
 conv => whnf
 refine br_intro (fun h => ?_) (fun h => ?_)
 · conv => whnf
   refine .ret _ ?_
   conv => whnf
   refine ⟨[], ⟨?_, rfl⟩, trivial⟩
   conv => lhs; whnf
   simp at h ⊢; simp [h]
 · conv => whnf
   refine .ret _ ?_
   conv => whnf
   refine ⟨[], ⟨?_, rfl⟩, trivial⟩
   conv => lhs; whnf
   simp at h ⊢; omega
theorem s107 (b : Bool) (e : Int) : FSpec Tryz.prog 85 [.d (.bool b), .d (.int .i64 e)] [] (fun x r => x = .d (.int .i64 (if b then e else 0)) ∧ r = []) := by
 refine spec_of hT (C := []) Tryz.func85 rfl Tryz.call85 rfl rfl rfl ?_
 conv => whnf
 refine br_intro (fun h => ?_) (fun h => ?_)
 · conv => whnf
   refine .ret _ ?_
   conv => whnf
   refine ⟨[], ⟨?_, rfl⟩, trivial⟩
   conv => lhs; whnf
   simp [h]
 · conv => whnf
   refine .ret _ ?_
   conv => whnf
   refine ⟨[], ⟨?_, rfl⟩, trivial⟩
   conv => lhs; whnf
   simp [h]
theorem getD_toNat {α : Type} {l : List α} {i : Nat} {d : α} (h : i < l.length) : l.getD (i : Int).toNat d = l[i] := by
 rw [Int.toNat_natCast, List.getD_eq_getElem?_getD]; simp [h]
theorem sum_take {l : List Int} {i : Nat} (hi : i < l.length) : (l.take (i + 1)).sum = (l.take i).sum + l[i] := by
 rw [← List.take_append_getElem hi, List.sum_append]; simp
def firstE : List Int → Int
 | [] => 0
 | x :: l => if x = 0 then firstE l else x
theorem s161 (l : List Int) (hl : l.length ≤ 2^40) : FSpec Tryz.prog 79 [.d (ints l)] [] (fun x r => x = .d (.int .i64 (firstE l)) ∧ r = []) := by
 refine spec_of hT (C := []) Tryz.func79 rfl Tryz.call79 rfl rfl rfl ?_
 conv => whnf
 refine LoopX.rule hT (C := []) (ι := Nat) (fun i => i ≤ l.length ∧ firstE l = firstE (l.drop i)) (fun i => mkSt [(3, .d (.int .i64 0)), (6, .d (ints l)), (7, .d (.int .i64 l.length)), (8, .d (.int .i64 i))] []) (fun i => l.length - i) 0 ⟨by omega, by simp⟩ ?_ ?_
 · refine Entails.mk' [] rfl rfl ⟨lr, lr, lr, lr, trivial⟩ trivial
 rintro i ⟨p1, p2⟩
 conv => whnf
 refine br_intro (fun h => ?_) (fun h => ?_)
 · simp only [decide_eq_true_eq] at h
   conv => whnf
   refine ⟨⟨by omega, by omega⟩, ?_⟩
   conv => whnf
   have hi : i < l.length := by omega
   have hd : l.drop i = l[i] :: l.drop (i + 1) := List.drop_eq_getElem_cons hi
   refine br_intro (fun h2 => ?_) (fun h2 => ?_)
   · conv => whnf
     refine .ret _ ?_
     conv => whnf
     refine ⟨[], ⟨?_, rfl⟩, trivial⟩
     conv => lhs; whnf
     rw [getD_toNat hi] at h2 ⊢
     simp at h2
     rw [p2, hd, firstE, if_neg h2]
   · conv => whnf
     rw [getD_toNat hi] at h2
     simp at h2
     refine ⟨by unfold inI64; omega, ?_⟩
     conv => whnf
     refine ⟨i + 1, ⟨hi, ?_⟩, by omega, ?_⟩
     · rw [p2, hd, firstE, if_pos h2]
     · exact Entails.mk' [] rfl rfl ⟨lr, lr, lr, lr, trivial⟩ trivial
 · simp only [decide_eq_false_iff_not] at h
   conv => whnf
   refine .ret _ ?_
   conv => whnf
   refine ⟨[], ⟨?_, rfl⟩, trivial⟩
   conv => lhs; whnf
   rw [p2, List.drop_eq_nil_iff.2 (by omega)]; rfl
theorem s105 (l : List Int) (hl : l.length ≤ 2^40) : FSpec Tryz.prog 53 [.d (ints l)] [] (fun x r => x = .d (.int .i64 (firstE l)) ∧ r = []) := by
 refine spec_of hT (C := []) Tryz.func53 rfl Tryz.call53 rfl rfl rfl ?_
 conv => whnf
 refine CallX.pure (s161 l hl) ⟨lr, trivial⟩ rfl ?_
 conv => whnf
 refine .ret _ ?_
 conv => whnf
 exact ⟨[], ⟨rfl, rfl⟩, trivial⟩
def splitF (cents : Int) (w : List Int) : Int :=
 if ¬ (0 ≤ cents ∧ cents ≤ 1000000000) then 1 else if 50 < w.length then 2 else if w.any (fun x => !decide (0 ≤ x ∧ x ≤ 5761440)) then 1 else if w.sum = 0 then 8 else 0
def keyCh (i : Nat) (c : UInt8) : Bool := (decide (97 ≤ c.toNat) && decide (c.toNat ≤ 122)) || (!decide (i = 0) && ((decide (48 ≤ c.toNat) && decide (c.toNat ≤ 57)) || decide (c.toNat = 45) || decide (c.toNat = 95)))
def isKeyB (s : List UInt8) : Bool := (List.range s.length).all (fun i => keyCh i (s.getD i 0)) && !s.isEmpty && decide (s.length ≤ 40)
theorem keyCh_iff {i : Nat} {c : UInt8} : keyCh i c = true ↔ ((97 ≤ (c.toNat : Int) ∧ (c.toNat : Int) ≤ 122) ∨ ((i : Int) ≠ 0 ∧ ((48 ≤ (c.toNat : Int) ∧ (c.toNat : Int) ≤ 57) ∨ (c.toNat : Int) = 45 ∨ (c.toNat : Int) = 95))) := by
 simp only [keyCh, Bool.or_eq_true, Bool.and_eq_true, decide_eq_true_eq, Bool.not_eq_true', decide_eq_false_iff_not]
 omega
theorem s108 (s : List UInt8) (hl : s.length ≤ 2^40) : FSpec Tryz.prog 47 [.d (.str s)] [] (fun x r => x = .d (.bool (isKeyB s)) ∧ r = []) := by
 refine spec_of hT (C := []) Tryz.func47 rfl Tryz.call47 rfl rfl rfl ?_
 conv => whnf
 refine LoopX.rule hT (C := []) (ι := Nat) (fun i => i ≤ s.length ∧ ∀ j, j < i → keyCh j (s.getD j 0) = true) (fun i => mkSt [(0, .d (.str s)), (7, .d (.int .i64 s.length)), (8, .d (.int .i64 i))] []) (fun i => s.length - i) 0 ⟨by omega, by omega⟩ ?_ ?_
 · exact Entails.mk' [] rfl rfl ⟨lr, lr, lr, trivial⟩ trivial
 rintro i ⟨p1, p2⟩
 conv => whnf
 refine br_intro (fun h => ?_) (fun h => ?_)
 · simp only [decide_eq_true_eq] at h
   have hi : i < s.length := by omega
   have e1 : (i : Int).toNat = i := Int.toNat_natCast i
   conv => whnf
   repeat (refine And.intro (by (try unfold inI64); (try dsimp only); (try simp only [e1, List.length_cons, List.length_append, List.length_singleton, List.length_nil]); omega) ?_; conv => whnf)
   have hbad : keyCh i (s.getD i 0) = false → isKeyB s = false := fun h => by
    have : (List.range s.length).all (fun i => keyCh i (s.getD i 0)) = false := by
     rw [List.all_eq_false]; exact ⟨i, List.mem_range.2 hi, by rw [h]; simp⟩
    simp only [isKeyB, this, Bool.false_and]
   have hgood : keyCh i (s.getD i 0) = true → ∀ j, j < i + 1 → keyCh j (s.getD j 0) = true := fun h j hj => by
    rcases Nat.lt_or_ge j i with q | q
    · exact p2 j q
    · have : j = i := by omega
      subst this; exact h
   repeat' (refine br_intro (fun _ => ?_) (fun _ => ?_) <;> (conv => whnf))
   all_goals first
    | (refine And.intro (by unfold inI64; omega) ?_
       conv => whnf
       refine ⟨i + 1, ⟨hi, hgood ?_⟩, by omega, Entails.mk' [] rfl rfl ⟨lr, lr, lr, trivial⟩ trivial⟩
       rw [keyCh_iff]
       simp only [decide_eq_true_eq, decide_eq_false_iff_not, Bool.not_eq_true', Bool.not_eq_false', e1] at *
       omega)
    | (refine .ret _ ?_
       conv => whnf
       refine ⟨[], ⟨?_, rfl⟩, trivial⟩
       conv => lhs; whnf
       rw [hbad]
       cases hq : keyCh i (s.getD i 0) with
       | false => rfl
       | true =>
         rw [keyCh_iff] at hq
         simp only [decide_eq_true_eq, decide_eq_false_iff_not, Bool.not_eq_true', Bool.not_eq_false', e1] at *
         omega)
    | skip
 simp only [decide_eq_false_iff_not] at h
 have e1 : i = s.length := by omega
 subst e1
 have hall : (List.range s.length).all (fun i => keyCh i (s.getD i 0)) = true := by
  rw [List.all_eq_true]; intro j hj; exact p2 j (List.mem_range.1 hj)
 conv => whnf
 repeat' (refine br_intro (fun _ => ?_) (fun _ => ?_) <;> (conv => whnf))
 all_goals (refine .ret _ ?_; conv => whnf)
 all_goals (refine ⟨[], ⟨?_, rfl⟩, trivial⟩; conv => lhs; whnf)
 · rename_i hq
   have : s.isEmpty = false := by
    cases s with
    | nil => exact absurd hq (by decide)
    | cons x l => rfl
   unfold isKeyB
   rw [hall, this]
   simp
   omega
 · rename_i hq
   have : s.isEmpty = true := by
    cases s with
    | nil => rfl
    | cons x l => exact absurd hq (by simp)
   unfold isKeyB
   rw [hall, this]
   rfl
def strLe (a b : List UInt8) : Bool := Op.bytesLess a b || a == b
def firstAt (f : Nat → Int) : Nat → Int
 | 0 => 0
 | n + 1 => if firstAt f n = 0 then f n else firstAt f n
theorem firstAt_zero {f : Nat → Int} : ∀ {n : Nat}, (∀ j, j < n → f j = 0) → firstAt f n = 0 := by
 intro n
 induction n with
 | zero => intro _; rfl
 | succ n ih => intro h; rw [firstAt, if_pos (ih fun j hj => h j (by omega))]; exact h n (by omega)
theorem firstAt_eq {f : Nat → Int} {n i : Nat} {e : Int} (hi : i < n) (h : ∀ j, j < i → f j = 0) (h1 : e ≠ 0) (h2 : f i = e) : firstAt f n = e := by
 induction n with
 | zero => omega
 | succ n ih =>
   rw [firstAt]
   by_cases q : i < n
   · rw [ih q, if_neg h1]
   · have : i = n := by omega
     subst this
     rw [if_pos (firstAt_zero h)]; exact h2
end Go.Proofs.YteehenjdddlnnaaGreatDoor
namespace Go.Proofs
open Go.Shelf
def Tryz.lays160_ren : Go.Shelf.Ren := ⟨fun | 160 => 110 | 232 => 128 | 231 => 127 | 227 => 129 | 234 => 131 | 233 => 130 | 236 => 133 | 235 => 132 | 228 => 140 | 271 => 143 | 151 => 142 | 197 => 141 | 120 => 149 | 152 => 148 | 260 => 147 | 137 => 152 | 119 => 153 | 224 => 154 | 225 => 155 | 217 => 157 | 266 => 158 | n => n, fun | 9 => 9 | 4 => 4 | 3 => 3 | 5 => 5 | 117 => 186 | 116 => 185 | 0 => 0 | 124 => 189 | 21 => 21 | 105 => 197 | 46 => 130 | 119 => 203 | 139 => 206 | 138 => 205 | n => n, fun | 3 => 1 | 4 => 2 | n => n⟩
theorem Tryz.lays160 : Go.Proofs.Lays.n160 Tryz.prog Tryz.lays160_ren := {
 mixed := by kernel_rfl
 f119 := Tryz.func153.trans (congrArg some (by kernel_rfl))
 f120 := Tryz.func149.trans (congrArg some (by kernel_rfl))
 f137 := Tryz.func152.trans (congrArg some (by kernel_rfl))
 f151 := Tryz.func142.trans (congrArg some (by kernel_rfl))
 f152 := Tryz.func148.trans (congrArg some (by kernel_rfl))
 f160 := Tryz.func110.trans (congrArg some (by kernel_rfl))
 f197 := Tryz.func141.trans (congrArg some (by kernel_rfl))
 f217 := Tryz.func157.trans (congrArg some (by kernel_rfl))
 f224 := Tryz.func154.trans (congrArg some (by kernel_rfl))
 f225 := Tryz.func155.trans (congrArg some (by kernel_rfl))
 f227 := Tryz.func129.trans (congrArg some (by kernel_rfl))
 f228 := Tryz.func140.trans (congrArg some (by kernel_rfl))
 f231 := Tryz.func127.trans (congrArg some (by kernel_rfl))
 f232 := Tryz.func128.trans (congrArg some (by kernel_rfl))
 f233 := Tryz.func130.trans (congrArg some (by kernel_rfl))
 f234 := Tryz.func131.trans (congrArg some (by kernel_rfl))
 f235 := Tryz.func132.trans (congrArg some (by kernel_rfl))
 f236 := Tryz.func133.trans (congrArg some (by kernel_rfl))
 f260 := Tryz.func147.trans (congrArg some (by kernel_rfl))
 f266 := Tryz.func158.trans (congrArg some (by kernel_rfl))
 f271 := Tryz.func143.trans (congrArg some (by kernel_rfl))
 t0 := Tryz.underlying0
 a0 := Tryz.isAgg0
 z0 := Tryz.sizeOf0
 v0 := Tryz.zeroValue0
 t3 := Tryz.underlying3
 a3 := Tryz.isAgg3
 z3 := Tryz.sizeOf3
 v3 := Tryz.zeroValue3
 t4 := Tryz.underlying4
 a4 := Tryz.isAgg4
 z4 := Tryz.sizeOf4
 v4 := Tryz.zeroValue4
 t5 := Tryz.underlying5
 a5 := Tryz.isAgg5
 z5 := Tryz.sizeOf5
 v5 := Tryz.zeroValue5
 t9 := Tryz.underlying9
 a9 := Tryz.isAgg9
 z9 := Tryz.sizeOf9
 v9 := Tryz.zeroValue9
 t21 := Tryz.underlying21
 a21 := Tryz.isAgg21
 z21 := Tryz.sizeOf21
 v21 := Tryz.zeroValue21
 t46 := Tryz.underlying130
 a46 := Tryz.isAgg130
 z46 := Tryz.sizeOf130
 v46 := Tryz.zeroValue130
 t105 := Tryz.underlying197
 a105 := Tryz.isAgg197
 z105 := Tryz.sizeOf197
 v105 := Tryz.zeroValue197
 t116 := Tryz.underlying185
 a116 := Tryz.isAgg185
 z116 := Tryz.sizeOf185
 t117 := Tryz.underlying186
 a117 := Tryz.isAgg186
 z117 := Tryz.sizeOf186
 v117 := Tryz.zeroValue186
 t119 := Tryz.underlying203
 a119 := Tryz.isAgg203
 z119 := Tryz.sizeOf203
 t124 := Tryz.underlying189
 a124 := Tryz.isAgg189
 z124 := Tryz.sizeOf189
 v124 := Tryz.zeroValue189
 t138 := Tryz.underlying205
 a138 := Tryz.isAgg205
 z138 := Tryz.sizeOf205
 v138 := Tryz.zeroValue205
 t139 := Tryz.underlying206
 a139 := Tryz.isAgg206
 z139 := Tryz.sizeOf206
 v139 := Tryz.zeroValue206
 g3 := by kernel_rfl
 g4 := by kernel_rfl }
end Go.Proofs
set_option maxRecDepth 20000
namespace Go.Proofs.YteehenjdddlnnaaGreatDoor
open Go Go.Eng Go.Shelf
theorem s162 (s cs : List UInt8) (hl : s.length ≤ 2^40) (hc : cs.length ≤ 2^20) (ha : cs.all (fun b => decide (b.toNat < 128)) = true) : FSpec Tryz.prog 110 [.d (.str s), .d (.str cs)] [] (fun x r => x = .d (.str (Lib.trimS s cs)) ∧ r = []) := by
 refine FSpec.ofBelow Tryz.call110 (fun G β w vs _ hvl hd => ?_)
 match vs, hvl with
 | [u, v], _ =>
   have h0 := hd 0 _ u rfl rfl
   have h1 := hd 1 _ v rfl rfl
   cases h0 with | d _ _ h0 => cases h0 with | str _ =>
   cases h1 with | d _ _ h1 => cases h1 with | str _ =>
   refine ⟨.string ⟨(Lib.trimS s cs).toArray⟩, fun _ _ => .d _ _ (.str _), ?_⟩
   have hcon := Any.strings_Trim_laid Tryz.lays160 (by kernel_rfl) ⟨s.toArray⟩ ⟨cs.toArray⟩ w (by simp [ByteArray.size]; omega) (by simp [ByteArray.size]; omega) (ascii_of_all (by simpa using ha))
   have e : Tryz.lays160_ren.f 160 = 110 := rfl
   rw [e] at hcon
   simpa using hcon
theorem dropWhile_nil {p : UInt8 → Bool} {l : List UInt8} : l.dropWhile p = [] ↔ ∀ b ∈ l, p b = true := by
 induction l with
 | nil => simp
 | cons a l ih => by_cases h : p a = true <;> simp [List.dropWhile_cons, h, ih]
theorem trimS_nil {s cs : List UInt8} : Lib.trimS s cs = [] ↔ ∀ b ∈ s, cs.contains b = true := by
 unfold Lib.trimS Lib.trimLeftS Lib.trimRightS
 rw [dropWhile_nil]
 constructor
 · intro h b hb
   have h1 : s.reverse.dropWhile (cs.contains ·) = [] ∨ ¬ s.reverse.dropWhile (cs.contains ·) = [] := Classical.em _
   rcases h1 with h1 | h1
   · exact dropWhile_nil.1 h1 b (by simpa using hb)
   · obtain ⟨c, m, hc⟩ := List.exists_cons_of_ne_nil h1
     have h3 : cs.contains c = false := by
      have := List.head_dropWhile_not (cs.contains ·) (l := s.reverse) h1
      simp only [hc, List.head_cons] at this
      exact this
     have h4 := h c (by rw [List.mem_reverse, hc]; exact List.mem_cons_self)
     rw [h3] at h4; cases h4
 · intro h b hb
   rw [List.mem_reverse] at hb
   exact h b (by simpa using (List.dropWhile_sublist _).subset hb)
def onlyB (s cs : List UInt8) : Bool := s.all (cs.contains ·)
theorem s111 (s cs : List UInt8) (hl : s.length ≤ 2^40) (hc : cs.length ≤ 2^20) (ha : cs.all (fun b => decide (b.toNat < 128)) = true) : FSpec Tryz.prog 75 [.d (.str s), .d (.str cs)] [] (fun x r => x = .d (.bool (onlyB s cs)) ∧ r = []) := by
 refine spec_of hT (C := []) Tryz.func75 rfl Tryz.call75 rfl rfl rfl ?_
 conv => whnf
 refine CallX.pure (s162 _ _ hl hc ha) ⟨lr, lr, trivial⟩ rfl ?_
 conv => whnf
 refine .ret _ ?_
 conv => whnf
 refine ⟨[], ⟨?_, rfl⟩, trivial⟩
 show SV.d (.bool (Lib.trimS s cs == [])) = _
 congr 2
 rw [Bool.eq_iff_iff]
 simp only [beq_iff_eq, trimS_nil, onlyB, List.all_eq_true]
theorem s110 (a b c : Int) : FSpec Tryz.prog 74 [.d (.int .i64 a), .d (.int .i64 b), .d (.int .i64 c)] [] (fun x r => x = .d (.bool (decide (b ≤ a ∧ a ≤ c))) ∧ r = []) := by
 refine spec_of hT (C := []) Tryz.func74 rfl Tryz.call74 rfl rfl rfl ?_
 conv => whnf
 repeat' (refine br_intro (fun _ => ?_) (fun _ => ?_) <;> (conv => whnf))
 all_goals
  refine .ret _ ?_
  conv => whnf
  refine ⟨[], ⟨?_, rfl⟩, trivial⟩
  conv => lhs; whnf
  congr 2
  grind
def smallsL : List UInt8 := [97, 98, 99, 100, 101, 102, 103, 104, 105, 106, 107, 108, 109, 110, 111, 112, 113, 114, 115, 116, 117, 118, 119, 120, 121, 122]
def keyL : List UInt8 := smallsL ++ [48, 49, 50, 51, 52, 53, 54, 55, 56, 57, 45, 95]
theorem u8_all {p : UInt8 → Bool} (h : (List.range 256).all (fun n => p (UInt8.ofNat n)) = true) (c : UInt8) : p c = true := by
 have := List.all_eq_true.1 h c.toNat (List.mem_range.2 c.toNat_lt)
 simpa using this
theorem small_iff (c : UInt8) : smallsL.contains c = keyCh 0 c := by
 have := u8_all (p := fun c => smallsL.contains c == keyCh 0 c) (by decide +kernel) c
 simpa using this
theorem key_iff (c : UInt8) : keyL.contains c = keyCh 1 c := by
 have := u8_all (p := fun c => keyL.contains c == keyCh 1 c) (by decide +kernel) c
 simpa using this
theorem keyCh_succ (i : Nat) (c : UInt8) : keyCh (i + 1) c = keyCh 1 c := by simp [keyCh]
theorem keyCh_one {c : UInt8} (h : keyCh 0 c = true) : keyCh 1 c = true := by
 simp only [keyCh] at h ⊢; simp at h; simp [h]
theorem isKey_eq (s : List UInt8) : isKeyB s = (decide (1 ≤ (s.length : Int) ∧ (s.length : Int) ≤ 40) && onlyB (s.take 1) smallsL && onlyB s keyL) := by
 cases s with
 | nil => rfl
 | cons c l =>
   have h1 : onlyB ((c :: l).take 1) smallsL = keyCh 0 c := by simp only [onlyB, List.take_succ_cons, List.take_zero, List.all_cons, List.all_nil, Bool.and_true, small_iff]
   have h2 : onlyB (c :: l) keyL = (keyCh 1 c && l.all (keyCh 1 ·)) := by simp only [onlyB, List.all_cons, key_iff]
   have h3 : (List.range (c :: l).length).all (fun i => keyCh i ((c :: l).getD i 0)) = (keyCh 0 c && l.all (keyCh 1 ·)) := by
    rw [List.length_cons, List.range_succ_eq_map, List.all_cons, List.all_map]
    congr 1
    rw [Bool.eq_iff_iff, List.all_eq_true, List.all_eq_true]
    constructor
    · intro h x hx
      obtain ⟨i, hi, rfl⟩ := List.getElem_of_mem hx
      have := h i (List.mem_range.2 hi)
      simp only [Function.comp, List.getD_cons_succ, keyCh_succ] at this
      rwa [List.getD_eq_getElem?_getD, List.getElem?_eq_getElem hi] at this
    · intro h i hi
      have hi := List.mem_range.1 hi
      simp only [Function.comp, List.getD_cons_succ, keyCh_succ]
      rw [List.getD_eq_getElem?_getD, List.getElem?_eq_getElem hi]
      exact h _ (List.getElem_mem hi)
   unfold isKeyB
   rw [h1, h2, h3, Bool.eq_iff_iff]
   simp only [Bool.and_eq_true, decide_eq_true_eq, Bool.not_eq_true', List.isEmpty_cons, List.length_cons]
   constructor
   · rintro ⟨⟨⟨a, b⟩, _⟩, d⟩; exact ⟨⟨⟨by omega, by omega⟩, a⟩, keyCh_one a, b⟩
   · rintro ⟨⟨⟨_, d⟩, a⟩, _, b⟩; exact ⟨⟨⟨a, b⟩, trivial⟩, by omega⟩
theorem s21 (s : List UInt8) (hl : s.length ≤ 2^40) : FSpec Tryz.prog 44 [.d (.str s)] [] (fun x r => x = .d (.bool (isKeyB s)) ∧ r = []) := by
 refine spec_of hT (C := []) Tryz.func44 rfl Tryz.call44 rfl rfl rfl ?_
 conv => whnf
 repeat' (first | (refine CallX.exact (s110 _ _ _) rfl rfl ?_; rotate_right; conv => whnf) | (refine CallX.exact (s111 s keyL hl ?_ ?_) rfl rfl ?_; rotate_right; conv => whnf) | (refine CallX.exact (s111 _ smallsL ?_ ?_ ?_) rfl rfl ?_; rotate_right; conv => whnf) | (refine br_intro ?_ ?_ <;> intro hb <;> (try simp only [brs] at hb) <;> conv => whnf) | omega | (refine And.intro ?_ ?_; ((try dsimp only); first | omega | (refine szA rfl ?_; omega) | (refine szB rfl ?_; omega) | (unfold inI64; omega) | exact rfl | (simp only [lns] at *; omega) | decide | (unfold inI64; decide)); conv => whnf) | decide | assumption)
 all_goals try (simp; omega)
 all_goals
  refine .ret _ ?_
  conv => whnf
  refine ⟨[], ⟨?_, rfl⟩, trivial⟩
  conv => lhs; whnf
  rw [isKey_eq]; congr 2; grind
theorem first_step {f : Nat → Int} {i : Nat} (p : ∀ j, j < i → f j = 0) (h : f i = 0) : ∀ j, j < i + 1 → f j = 0 := fun j hj => by
 rcases Nat.lt_or_ge j i with q | q
 · exact p j q
 · have : j = i := by omega
   subst this; exact h
theorem toNat_pred (i : Nat) : ((i : Int) - 1).toNat = i - 1 := by omega
theorem take_snocD {α : Type} {l : List α} {i : Nat} {d : α} (h : i < l.length) : l.take (i + 1) = l.take i ++ [l.getD i d] := by
 rw [List.take_succ_eq_append_getElem h, List.getD_eq_getElem?_getD, List.getElem?_eq_getElem h]; rfl
theorem firstAt_all {f : Nat → Int} : ∀ {n : Nat}, firstAt f n = 0 → ∀ j, j < n → f j = 0 := by
 intro n
 induction n with
 | zero => intro _ j hj; omega
 | succ n ih =>
   intro h j hj
   rw [firstAt] at h
   split at h
   · rename_i q
     rcases Nat.lt_or_ge j n with r | r
     · exact ih q j r
     · have : j = n := by omega
       subst this; exact h
   · omega
theorem mem_getD {α : Type} {l : List α} {x d : α} (h : x ∈ l) : ∃ j, j < l.length ∧ l.getD j d = x := by
 obtain ⟨j, hj, rfl⟩ := List.getElem_of_mem h
 exact ⟨j, hj, by rw [List.getD_eq_getElem?_getD, List.getElem?_eq_getElem hj]; rfl⟩
def oVCoD144_4 : List (Nat × List Nat) := [(0, []), (1, [0]), (2, []), (3, []), (4, []), (5, [4]), (6, [4, 5]), (7, [4]), (8, [4]), (9, [4, 5, 6, 7, 8]), (10, [4, 5, 6, 7, 8, 9]), (11, [4, 5, 6, 7, 8, 9]), (12, [4, 5, 6, 7, 8]), (13, [4, 5, 6, 7, 8]), (14, []), (15, []), (16, [])]
def oVCoD144_6 : List (Nat × List Nat) := [(0, []), (1, [0]), (2, [0, 1]), (3, [0, 1, 2]), (4, [0, 1, 2]), (5, [0, 1, 2, 3, 4]), (6, [0, 1, 2, 3, 4, 5]), (7, [0, 1, 2, 3, 4, 5]), (8, [0, 1, 2, 3, 4]), (9, [0, 1, 2, 3, 4]), (10, [0, 1, 2, 3, 4, 5, 6, 7, 8, 9]), (11, [0, 1, 2, 3, 4, 5, 6, 7, 8, 9, 10]), (12, [0, 1, 2, 3, 4, 5, 6, 7, 8, 9]), (13, [0, 1, 2, 3, 4, 5, 6, 7, 8, 9]), (14, [2, 3, 4]), (15, [2, 3, 4]), (16, []), (17, [])]
section
variable {α : Type} (cmp : α → α → Int)
def insR (x : α) : List α → List α
 | [] => [x]
 | y :: r => if cmp x y < 0 then y :: insR x r else x :: y :: r
def isortR (l : List α) : List α := l.foldl (fun acc x => insR cmp x acc) []
def isort (l : List α) : List α := (isortR cmp l).reverse
theorem insR_length (x : α) : ∀ l : List α, (insR cmp x l).length = l.length + 1 := by
 intro l
 induction l with
 | nil => rfl
 | cons y r ih => simp only [insR]; split <;> simp [ih]
theorem isortR_snoc (l : List α) (x : α) : isortR cmp (l ++ [x]) = insR cmp x (isortR cmp l) := by simp [isortR]
theorem isortR_length (l : List α) : (isortR cmp l).length = l.length := by
 have : ∀ (l acc : List α), (l.foldl (fun acc x => insR cmp x acc) acc).length = acc.length + l.length := by
  intro l
  induction l with
  | nil => intro acc; simp
  | cons x l ih => intro acc; rw [List.foldl_cons, ih, insR_length]; simp; omega
 rw [isortR, this]; simp
theorem insR_mem (x y : α) : ∀ {l : List α}, y ∈ insR cmp x l ↔ y = x ∨ y ∈ l := by
 intro l
 induction l with
 | nil => simp [insR]
 | cons z r ih =>
   simp only [insR]
   split
   · simp only [List.mem_cons, ih]
     constructor
     · rintro (h | h | h)
       · exact .inr (.inl h)
       · exact .inl h
       · exact .inr (.inr h)
     · rintro (h | h | h)
       · exact .inr (.inl h)
       · exact .inl h
       · exact .inr (.inr h)
   · simp
theorem isortR_mem {y : α} (l : List α) : y ∈ isortR cmp l ↔ y ∈ l := by
 have : ∀ (l acc : List α), y ∈ (l.foldl (fun acc x => insR cmp x acc) acc) ↔ y ∈ acc ∨ y ∈ l := by
  intro l
  induction l with
  | nil => intro acc; simp
  | cons x l ih =>
    intro acc; rw [List.foldl_cons, ih, insR_mem, List.mem_cons]
    constructor
    · rintro ((h | h) | h)
      · exact .inr (.inl h)
      · exact .inl h
      · exact .inr (.inr h)
    · rintro (h | h | h)
      · exact .inl (.inr h)
      · exact .inl (.inl h)
      · exact .inr h
 rw [isortR, this]; simp
end
def cap3 (x y z : SV) (e1 e2 e3 : TypeId) : List (Nat × Res) := [(1000002, .cells e1 [x]), (1000003, .cells e2 [y]), (1000004, .cells e3 [z])]
theorem take_snoc {α : Type} {l : List α} {i : Nat} (h : i < l.length) : l.take (i + 1) = l.take i ++ [l[i]] := (List.take_append_getElem h).symm
theorem getD_mid {α : Type} (A B : List α) (x d : α) {i : Nat} (h : i = A.length) : (A ++ x :: B).getD i d = x := by
 subst h; rw [List.getD_eq_getElem?_getD]; simp
theorem swap_lemma {α : Type} (A B : List α) (x y : α) : (((A ++ [y] ++ [x] ++ B).set (A.length + 1) y).set A.length x) = A ++ [x] ++ [y] ++ B := by
 simp [List.set_append]
theorem s228 (g : FuncId) (x1 x2 x3 : DV) (e1 e2 e3 : TypeId) (cmp : Int → Int → Int) (l : List Int) (hl : l.length ≤ 2^40)
 (hcmp : ∀ p q, p ∈ l → q ∈ l → FSpec Tryz.prog g [.d (.int .i64 p), .d (.int .i64 q), .ptr 1000002 0, .ptr 1000003 0, .ptr 1000004 0] (cap3 (.d x1) (.d x2) (.d x3) e1 e2 e3)
   (fun y r => y = .d (.int .i64 (cmp p q)) ∧ r = cap3 (.d x1) (.d x2) (.d x3) e1 e2 e3)) :
 FSpec Tryz.prog 144 [.buf 1000001, .d (.int .i64 0), .d (.int .i64 l.length), .fn g [.ptr 1000002 0, .ptr 1000003 0, .ptr 1000004 0]] ((1000001, seqB 3 1 iF 0 l) :: cap3 (.d x1) (.d x2) (.d x3) e1 e2 e3)
  (fun y r => y = .tup [] ∧ r = (1000001, seqB 3 1 iF 0 (isort cmp l)) :: cap3 (.d x1) (.d x2) (.d x3) e1 e2 e3) := by
 refine spec_of hT (C := []) Tryz.func144 rfl Tryz.call144 rfl rfl rfl ?_
 conv => whnf
 refine ⟨by unfold inI64; omega, ?_⟩
 conv => whnf
 refine LoopX.rule hT (C := []) (ι := Nat × List Int) (fun p => 1 ≤ p.1 ∧ (p.1 ≤ l.length ∨ p.1 = 1) ∧ p.2 = (isortR cmp (l.take p.1)).reverse ++ l.drop p.1)
  (fun p => mkSt [(0, .buf 1000001), (1, .d (.int .i64 0)), (2, .d (.int .i64 l.length)), (3, .fn g [.ptr 1000002 0, .ptr 1000003 0, .ptr 1000004 0]), (8, .d (.int .i64 p.1))] ((1000001, seqB 3 1 iF 0 p.2) :: cap3 (.d x1) (.d x2) (.d x3) e1 e2 e3))
  (fun p => l.length - p.1) (1, l) ⟨by simp, by simp, ?_⟩ ?_ ?_
 · simp only
   cases l with
   | nil => rfl
   | cons x l => simp [isortR, insR]
 · exact Entails.mk' [(1000001, 1000001), (1000002, 1000002), (1000003, 1000003), (1000004, 1000004)] rfl rfl ⟨lr, lr, lr, lr, lr, trivial⟩ ⟨rr, rr, rr, rr, trivial⟩
 rintro ⟨i, c⟩ ⟨p1, p2, p3⟩
 simp only at p1 p2 p3
 conv => whnf
 refine br_intro (fun h => ?_) (fun h => ?_)
 · simp only [decide_eq_true_eq] at h
   have hi : i < l.length := by omega
   conv => whnf
   have hx : l[i] ∈ l := List.getElem_mem hi
   have hmem : ∀ y ∈ isortR cmp (l.take i), y ∈ l := fun y hy => List.mem_of_mem_take ((isortR_mem cmp _).1 hy)
   refine LoopX.rule hT (C := []) (ι := List Int × List Int) (fun p => insR cmp l[i] (isortR cmp (l.take i)) = p.2.reverse ++ insR cmp l[i] p.1 ∧ p.1.length + p.2.length = i ∧ ∀ y ∈ p.1, y ∈ l)
    (fun p => mkSt [(0, .buf 1000001), (1, .d (.int .i64 0)), (2, .d (.int .i64 l.length)), (3, .fn g [.ptr 1000002 0, .ptr 1000003 0, .ptr 1000004 0]), (8, .d (.int .i64 i)), (9, .d (.int .i64 p.1.length))]
      ((1000001, seqB 3 1 iF 0 (p.1.reverse ++ [l[i]] ++ p.2 ++ l.drop (i + 1))) :: cap3 (.d x1) (.d x2) (.d x3) e1 e2 e3))
    (fun p => p.1.length) (isortR cmp (l.take i), []) ⟨by simp, ?_, hmem⟩ ?_ ?_
   · simp [isortR_length]; omega
   · refine Entails.mk' [(1000001, 1000001), (1000002, 1000002), (1000003, 1000003), (1000004, 1000004)] rfl rfl ⟨lr, lr, lr, lr, lr, SV.le_int ?_, trivial⟩ ⟨?_, rr, rr, rr, trivial⟩
     · simp [isortR_length]; omega
     · have : c = (isortR cmp (l.take i)).reverse ++ [l[i]] ++ [] ++ l.drop (i + 1) := by rw [p3, List.drop_eq_getElem_cons hi]; simp
       show Res.le (seqB 3 1 iF 0 c) _
       rw [this]; exact rr
   rintro ⟨A, B⟩ ⟨q1, q2, q3⟩
   simp only at q1 q2 q3
   have hlen : (A.reverse ++ [l[i]] ++ B ++ l.drop (i + 1)).length = l.length := by simp; omega
   conv => whnf
   refine RegX.rule hT rfl [] oVCoD144_4 (by decide +kernel) ?_
   conv => whnf
   refine br_intro (fun h2 => ?_) (fun h2 => ?_)
   · conv => whnf
     cases A with
     | nil => simp at h2
     | cons y A =>
     have g1 : ((y :: A).reverse ++ [l[i]] ++ B ++ l.drop (i + 1)).getD (((y :: A).length : Int)).toNat 0 = l[i] := by
      rw [show (y :: A).reverse ++ [l[i]] ++ B ++ l.drop (i + 1) = (y :: A).reverse ++ l[i] :: (B ++ l.drop (i + 1)) by simp]
      exact getD_mid _ _ _ _ (by simp)
     have g2 : ((y :: A).reverse ++ [l[i]] ++ B ++ l.drop (i + 1)).getD ((((y :: A).length : Int)) - 1).toNat 0 = y := by
      rw [show (y :: A).reverse ++ [l[i]] ++ B ++ l.drop (i + 1) = A.reverse ++ y :: ([l[i]] ++ B ++ l.drop (i + 1)) by simp]
      exact getD_mid _ _ _ _ (by simp)
     have hA : (y :: A).length = A.length + 1 := rfl
     refine ⟨⟨by omega, by simp only [hlen]; omega⟩, ?_⟩
     conv => whnf
     refine ⟨by simp only [hlen]; omega, ?_⟩
     conv => whnf
     refine ⟨by unfold inI64; simp only [List.length_cons]; omega, ?_⟩
     conv => whnf
     refine ⟨⟨by simp only [List.length_cons]; omega, by simp only [hlen, List.length_cons]; omega⟩, ?_⟩
     conv => whnf
     refine ⟨by simp only [hlen, List.length_cons]; omega, ?_⟩
     conv => whnf
     refine CallX.of (hcmp l[i] y hx (q3 y (by simp))) [(1000002, 1000002), (1000003, 1000003), (1000004, 1000004)] rfl ⟨SV.le_int g1, SV.le_int g2, lr, lr, lr, trivial⟩ ⟨rr, rr, rr, trivial⟩ rfl rfl ?_
     rintro x rout ⟨rfl, rfl⟩
     refine ⟨rfl, ?_⟩
     conv => whnf
     refine br_intro (fun h3 => ?_) (fun h3 => ?_)
     · simp only [decide_eq_true_eq] at h3
       conv => whnf
       refine RegX.rule hT rfl [] oVCoD144_6 (by decide +kernel) ?_
       conv => whnf
       repeat (refine And.intro (by (try unfold inI64); (try dsimp only); (try simp only [hlen, List.length_cons, List.length_append, List.length_singleton, List.length_nil]); omega) ?_; conv => whnf)
       have hsw : (((y :: A).reverse ++ [l[i]] ++ B ++ l.drop (i + 1)).set (((y :: A).length : Int)).toNat y).set ((((y :: A).length : Int)) - 1).toNat l[i] = A.reverse ++ [l[i]] ++ (y :: B) ++ l.drop (i + 1) := by
        have k1 : (((y :: A).length : Int)).toNat = A.reverse.length + 1 := by simp
        have k2 : ((((y :: A).length : Int)) - 1).toNat = A.reverse.length := by simp
        rw [k1, k2]
        have := swap_lemma A.reverse (B ++ l.drop (i + 1)) l[i] y
        simp only [List.reverse_cons, List.append_assoc, List.singleton_append, List.cons_append, List.nil_append] at this ⊢
        exact this
       refine ⟨(A, y :: B), ⟨?_, by simp only [List.length_cons] at q2 ⊢; omega, fun z hz => q3 z (by simp [hz])⟩, by simp only [List.length_cons]; omega, ?_⟩
       · rw [q1]; simp [insR, h3]
       · refine Entails.mk' [(1000001, 1000001), (1000002, 1000002), (1000003, 1000003), (1000004, 1000004)] rfl rfl ⟨lr, lr, lr, lr, lr, SV.le_int (by simp only [List.length_cons]; omega), trivial⟩ ⟨?_, rr, rr, rr, trivial⟩
         show Res.le _ (seqB 3 1 iF 0 (A.reverse ++ [l[i]] ++ (y :: B) ++ l.drop (i + 1)))
         rw [← hsw]
         refine Res.le_buf (by simp) (fun k hk => ?_)
         have e1 := rows_putG (f := iF) (d := 0) (l := ((y :: A).reverse ++ [l[i]] ++ B ++ l.drop (i + 1))) (x := y) (j := ((((y :: A).length : Int)).toNat)) (off := 0) (ds := [.int .i64 (((y :: A).reverse ++ [l[i]] ++ B ++ l.drop (i + 1)).getD ((((y :: A).length : Int) - 1).toNat) 0)]) (get := rowF iF 0 ((y :: A).reverse ++ [l[i]] ++ B ++ l.drop (i + 1))) (fun _ _ => rfl) (fun z _ => by rw [g2]; rfl)
         have e2 := rows_putG (f := iF) (d := 0) (l := ((y :: A).reverse ++ [l[i]] ++ B ++ l.drop (i + 1)).set ((((y :: A).length : Int)).toNat) y) (x := l[i]) (j := ((((y :: A).length : Int) - 1).toNat)) (off := 0) (ds := [.int .i64 (((y :: A).reverse ++ [l[i]] ++ B ++ l.drop (i + 1)).getD ((((y :: A).length : Int)).toNat) 0)])
          (get := fun k => bif Nat.beq k ((((y :: A).length : Int)).toNat) then setAtD (rowF iF 0 ((y :: A).reverse ++ [l[i]] ++ B ++ l.drop (i + 1)) k) 0 [.int .i64 (((y :: A).reverse ++ [l[i]] ++ B ++ l.drop (i + 1)).getD ((((y :: A).length : Int) - 1).toNat) 0)] else rowF iF 0 ((y :: A).reverse ++ [l[i]] ++ B ++ l.drop (i + 1)) k) (fun k hk => e1 k (by simpa using hk)) (fun z _ => by rw [g1]; rfl)
         exact e2 k (by simpa using hk)
     · simp only [decide_eq_false_iff_not] at h3
       conv => whnf
       refine ⟨by unfold inI64; omega, ?_⟩
       conv => whnf
       refine ⟨(i + 1, (y :: A).reverse ++ [l[i]] ++ B ++ l.drop (i + 1)), ⟨by simp only; omega, by simp only; omega, ?_⟩, by simp only; omega, ?_⟩
       · simp only
         rw [take_snoc hi, isortR_snoc, q1]; simp [insR, h3]
       · exact Entails.mk' [(1000001, 1000001), (1000002, 1000002), (1000003, 1000003), (1000004, 1000004)] rfl rfl ⟨lr, lr, lr, lr, lr, trivial⟩ ⟨rr, rr, rr, rr, trivial⟩
   · conv => whnf
     refine ⟨by unfold inI64; omega, ?_⟩
     conv => whnf
     have hA : A = [] := by cases A <;> simp at h2 ⊢
     subst hA
     refine ⟨(i + 1, [].reverse ++ [l[i]] ++ B ++ l.drop (i + 1)), ⟨by simp only; omega, by simp only; omega, ?_⟩, by simp only; omega, ?_⟩
     · simp only
       rw [take_snoc hi, isortR_snoc, q1]; simp [insR]
     · exact Entails.mk' [(1000001, 1000001), (1000002, 1000002), (1000003, 1000003), (1000004, 1000004)] rfl rfl ⟨lr, lr, lr, lr, lr, trivial⟩ ⟨rr, rr, rr, rr, trivial⟩
 · conv => whnf
   have e1 : c = isort cmp l := by
    simp only [decide_eq_false_iff_not] at h
    rw [p3, List.take_of_length_le (by omega), List.drop_eq_nil_iff.2 (by omega), List.append_nil]; rfl
   refine .ret _ ?_
   conv => whnf
   subst e1
   exact ⟨_, ⟨rfl, rfl⟩, rr, rr, rr, rr, trivial⟩
def oVCoE113_1 : List (Nat × List Nat) := [(0, []), (1, [0]), (2, [0, 1]), (3, [0]), (4, [0]), (5, []), (6, [0, 1, 2, 3, 4, 5]), (7, []), (8, [0, 1, 2, 3, 4, 5, 6, 7]), (9, [0, 1, 2, 3, 4, 5, 6, 7, 8]), (10, [0, 1, 2, 3, 4, 5, 6, 7, 8, 9]), (11, [0, 1, 2, 3, 4, 5, 6, 7, 8]), (12, [0, 1, 2, 3, 4, 5, 6, 7, 8]), (13, [0, 1, 2, 3, 4, 5, 6, 7]), (14, [0, 1, 2, 3, 4, 5, 6, 7, 8, 9, 10, 11, 12, 13]), (15, [0, 1, 2, 3, 4, 5, 6, 7]), (16, []), (17, [])]
theorem s207 (g : FuncId) (x1 x2 x3 : DV) (e1 e2 e3 : TypeId) (cmp : Int → Int → Int) (l : List Int) (hl : l.length < 20)
 (hcmp : ∀ p q, p ∈ l → q ∈ l → FSpec Tryz.prog g [.d (.int .i64 p), .d (.int .i64 q), .ptr 1000002 0, .ptr 1000003 0, .ptr 1000004 0] (cap3 (.d x1) (.d x2) (.d x3) e1 e2 e3)
   (fun y r => y = .d (.int .i64 (cmp p q)) ∧ r = cap3 (.d x1) (.d x2) (.d x3) e1 e2 e3)) :
 FSpec Tryz.prog 134 [.buf 1000001, .d (.int .i64 l.length), .fn g [.ptr 1000002 0, .ptr 1000003 0, .ptr 1000004 0]] ((1000001, seqB 3 1 iF 0 l) :: cap3 (.d x1) (.d x2) (.d x3) e1 e2 e3)
  (fun y r => y = .tup [] ∧ r = (1000001, seqB 3 1 iF 0 (isort cmp l)) :: cap3 (.d x1) (.d x2) (.d x3) e1 e2 e3) := by
 refine spec_of hT (C := []) Tryz.func134 rfl Tryz.call134 rfl rfl rfl ?_
 conv => whnf
 refine LoopX.unroll hT (C := []) (fun _ _ h => h) (fun _ h => h) ?_
 conv => whnf
 refine br_intro (fun h => ?_) (fun h => ?_)
 · simp at h; omega
 conv => whnf
 refine CallX.of (s228 g x1 x2 x3 e1 e2 e3 cmp l (by omega) hcmp) [(1000001, 1000001), (1000002, 1000002), (1000003, 1000003), (1000004, 1000004)] rfl ⟨lr, lr, lr, lr, trivial⟩ ⟨rr, rr, rr, rr, trivial⟩ rfl rfl ?_
 rintro x rout ⟨rfl, rfl⟩
 refine ⟨rfl, ?_⟩
 conv => whnf
 refine LoopX.unroll hT (C := []) (fun _ _ h => h) (fun _ h => h) ?_
 conv => whnf
 refine br_intro (fun h => ?_) (fun h => ?_)
 · simp at h; omega
 conv => whnf
 refine .ret _ ?_
 conv => whnf
 exact ⟨_, ⟨rfl, rfl⟩, rr, rr, rr, rr, trivial⟩
theorem s173 (g : FuncId) (x1 x2 x3 : DV) (e1 e2 e3 : TypeId) (cmp : Int → Int → Int) (l : List Int) (hl : l.length < 20)
 (hcmp : ∀ p q, p ∈ l → q ∈ l → FSpec Tryz.prog g [.d (.int .i64 p), .d (.int .i64 q), .ptr 1000002 0, .ptr 1000003 0, .ptr 1000004 0] (cap3 (.d x1) (.d x2) (.d x3) e1 e2 e3)
   (fun y r => y = .d (.int .i64 (cmp p q)) ∧ r = cap3 (.d x1) (.d x2) (.d x3) e1 e2 e3)) :
 FSpec Tryz.prog 112 [.buf 1000001, .fn g [.ptr 1000002 0, .ptr 1000003 0, .ptr 1000004 0]] ((1000001, seqB 3 1 iF 0 l) :: cap3 (.d x1) (.d x2) (.d x3) e1 e2 e3)
  (fun y r => y = .tup [] ∧ r = (1000001, seqB 3 1 iF 0 (isort cmp l)) :: cap3 (.d x1) (.d x2) (.d x3) e1 e2 e3) := by
 refine spec_of hT (C := []) Tryz.func112 rfl Tryz.call112 rfl rfl rfl ?_
 conv => whnf
 refine CallX.of (s207 g x1 x2 x3 e1 e2 e3 cmp l (by omega) hcmp) [(1000001, 1000001), (1000002, 1000002), (1000003, 1000003), (1000004, 1000004)] rfl ⟨lr, lr, lr, trivial⟩ ⟨rr, rr, rr, rr, trivial⟩ rfl rfl ?_
 rintro x rout ⟨rfl, rfl⟩
 refine ⟨rfl, ?_⟩
 conv => whnf
 refine .ret _ ?_
 conv => whnf
 exact ⟨_, ⟨rfl, rfl⟩, rr, rr, rr, rr, trivial⟩
theorem s174 (c s : Int) (w : List Int) (hc : 0 ≤ c ∧ c ≤ 1000000000) (hw : ∀ x ∈ w, 0 ≤ x ∧ x ≤ 5761440) (hs : 0 < s) (hs2 : s ≤ 2^40) (p q : Nat) (hp : p < w.length) (hq : q < w.length) :
 FSpec Tryz.prog 113 [.d (.int .i64 p), .d (.int .i64 q), .ptr 1000002 0, .ptr 1000003 0, .ptr 1000004 0] (cap3 (.d (.int .i64 c)) (.d (ints w)) (.d (.int .i64 s)) 3 22 3)
  (fun y r => y = .d (.int .i64 ((c * w.getD q 0).tmod s - (c * w.getD p 0).tmod s)) ∧ r = cap3 (.d (.int .i64 c)) (.d (ints w)) (.d (.int .i64 s)) 3 22 3) := by
 refine spec_of hT (C := []) Tryz.func113 rfl Tryz.call113 rfl rfl rfl ?_
 conv => whnf
 have bd : ∀ i : Nat, i < w.length → 0 ≤ c * w.getD (i : Int).toNat 0 ∧ c * w.getD (i : Int).toNat 0 ≤ 1000000000 * 5761440 := fun i hi => by
  rw [getD_toNat hi]
  have := hw _ (List.getElem_mem hi)
  exact ⟨Int.mul_nonneg hc.1 this.1, Int.mul_le_mul hc.2 this.2 this.1 (by omega)⟩
 have bp := bd p hp
 have bq := bd q hq
 have tp := Int.tmod_nonneg s bp.1
 have tq := Int.tmod_nonneg s bq.1
 have tp2 := Int.tmod_lt_of_pos (c * w.getD (p : Int).toNat 0) hs
 have tq2 := Int.tmod_lt_of_pos (c * w.getD (q : Int).toNat 0) hs
 refine RegX.rule hT rfl [] oVCoE113_1 (by decide +kernel) ?_
 conv => whnf
 repeat (refine And.intro (by (try unfold inI64); (try dsimp only); (try simp only [List.length_cons, List.length_append, List.length_singleton, List.length_nil]); omega) ?_; conv => whnf)
 refine .ret _ ?_
 conv => whnf
 exact ⟨_, ⟨rfl, rfl⟩, rr, rr, rr, trivial⟩
def oVCoF86_7 : List (Nat × List Nat) := [(0, []), (1, []), (2, []), (3, [0, 1, 2]), (4, [0, 1, 2]), (5, [0, 1, 2]), (6, [3, 4, 5]), (7, [])]
def fillL (g : Nat → Int) (n i : Nat) : List Int := (List.range n).map fun j => if j < i then g j else 0
theorem fillL_length (g : Nat → Int) (n i : Nat) : (fillL g n i).length = n := by simp [fillL]
theorem fillL_get {g : Nat → Int} {n i j : Nat} (h : j < n) : (fillL g n i)[j]'(by rw [fillL_length]; exact h) = if j < i then g j else 0 := by simp [fillL]
theorem fillL_zero {e : Nat} {g : Nat → Int} {n m : Nat} {get : Nat → List DV} (hm : m = n) (hg : ∀ i, get i = iF 0) : Res.le (.buf e 1 m get) (seqB e 1 iF 0 (fillL g n 0)) :=
 Res.le_buf (by rw [fillL_length, hm]) (fun i hi => by rw [rowF_lt (by rw [fillL_length]; omega), hg i, fillL_get (by omega)]; simp)
theorem fillL_set (g : Nat → Int) (n i : Nat) : (fillL g n i).set i (g i) = fillL g n (i + 1) := by
 apply List.ext_getElem
 · simp [fillL]
 · intro j h1 h2
   simp only [fillL, List.getElem_set, List.getElem_map, List.getElem_range]
   by_cases e : i = j
   · subst e; simp
   · by_cases q : j < i
     · have : j < i + 1 := by omega
       simp [e, q, this]
     · have : ¬ j < i + 1 := by omega
       simp [e, q, this]
def leftL (c : Int) (g : Nat → Int) (i : Nat) : Int := c - ((List.range i).map g).sum
theorem leftL_succ (c : Int) (g : Nat → Int) (i : Nat) : leftL c g (i + 1) = leftL c g i - g i := by
 simp [leftL, List.range_succ, List.sum_append]; omega
def partG (c : Int) (w : List Int) (j : Nat) : Int := (c * w.getD j 0).tdiv w.sum
def cmpG (c : Int) (w : List Int) (p q : Int) : Int := (c * w.getD q.toNat 0).tmod w.sum - (c * w.getD p.toNat 0).tmod w.sum
def orderG (c : Int) (w : List Int) : List Int := isort (cmpG c w) (fillL (fun j => (j : Int)) w.length w.length)
def incL (P : List Int) (js : List Int) : List Int := js.foldl (fun P j => P.set j.toNat (P.getD j.toNat 0 + 1)) P
def splitG (c : Int) (w : List Int) : List Int := incL (fillL (partG c w) w.length w.length) ((orderG c w).take (leftL c (partG c w) w.length).toNat)
theorem incL_snoc (P : List Int) (js : List Int) (j : Int) : incL P (js ++ [j]) = (incL P js).set j.toNat ((incL P js).getD j.toNat 0 + 1) := by simp [incL]
theorem sum_nonneg {l : List Int} (h : ∀ x ∈ l, 0 ≤ x) : 0 ≤ l.sum := by
 induction l with
 | nil => simp
 | cons x l ih => rw [List.sum_cons]; have := h x (by simp); have := ih (fun y hy => h y (by simp [hy])); omega
theorem sum_le {l : List Int} {b : Int} (h : ∀ x ∈ l, x ≤ b) : l.sum ≤ b * l.length := by
 induction l with
 | nil => simp
 | cons x l ih => rw [List.sum_cons]; have := h x (by simp); have := ih (fun y hy => h y (by simp [hy])); simp only [List.length_cons]; rw [show b * ((l.length + 1 : Nat) : Int) = b * l.length + b by push_cast; rw [Int.mul_add, Int.mul_one]]; omega
theorem s120 (c : Int) (w : List Int) (hc : 0 ≤ c ∧ c ≤ 1000000000) (hw : ∀ x ∈ w, 0 ≤ x ∧ x ≤ 5761440) (hn : w.length < 20) (hs : w.sum ≠ 0) (hleft : 0 ≤ leftL c (partG c w) w.length ∧ leftL c (partG c w) w.length ≤ w.length) :
 FSpec Tryz.prog 86 [.d (.int .i64 c), .d (ints w)] [] (fun y r => y = .d (ints (splitG c w)) ∧ r = []) := by
 have hs0 : 0 ≤ w.sum := sum_nonneg fun x hx => (hw x hx).1
 have hs1 : w.sum ≤ 5761440 * w.length := sum_le fun x hx => (hw x hx).2
 refine spec_of hT (C := []) Tryz.func86 rfl Tryz.call86 rfl rfl rfl ?_
 conv => whnf
 refine LoopX.rule hT (C := []) (ι := Nat) (fun i => i ≤ w.length) (fun i => mkSt [(2, .ptr 2 0), (3, .ptr 3 0), (5, .ptr 5 0), (15, .d (ints w)), (16, .d (.int .i64 w.length)), (17, .d (.int .i64 i))]
  [(2, .cells 3 [.d (.int .i64 c)]), (3, .cells 22 [.d (ints w)]), (5, .cells 3 [.d (.int .i64 (w.take i).sum)])]) (fun i => w.length - i) 0 (by omega) ?_ ?_
 · exact Entails.mk' [(2, 2), (3, 3), (5, 5)] rfl rfl ⟨lr, lr, lr, lr, lr, lr, trivial⟩ ⟨rr, rr, rr, trivial⟩
 intro i p1
 conv => whnf
 refine br_intro (fun h => ?_) (fun h => ?_)
 · simp only [decide_eq_true_eq] at h
   have hi : i < w.length := by omega
   have b1 := hw _ (List.getElem_mem hi)
   have b2 : 0 ≤ (w.take i).sum := sum_nonneg fun x hx => (hw x (List.mem_of_mem_take hx)).1
   have b3 : (w.take i).sum ≤ 5761440 * (w.take i).length := sum_le fun x hx => (hw x (List.mem_of_mem_take hx)).2
   have b4 : (w.take i).length = i := by simp; omega
   have b5 : w.getD (i : Int).toNat 0 = w[i] := getD_toNat hi
   conv => whnf
   repeat (refine And.intro (by (try unfold inI64); (try dsimp only); (try simp only [List.length_cons, List.length_append, List.length_singleton, List.length_nil]); omega) ?_; conv => whnf)
   refine ⟨i + 1, hi, by omega, ?_⟩
   refine Entails.mk' [(2, 2), (3, 3), (5, 5)] rfl rfl ⟨lr, lr, lr, lr, lr, lr, trivial⟩ ⟨rr, rr, ?_, trivial⟩
   show Res.le (.cells 3 [.d (.int .i64 ((w.take i).sum + w.getD (i : Int).toNat 0))]) (.cells 3 [.d (.int .i64 (w.take (i + 1)).sum)])
   rw [b5, sum_take hi]; exact rr
 simp only [decide_eq_false_iff_not] at h
 have e1 : i = w.length := by omega
 subst e1
 rw [List.take_length]
 conv => whnf
 refine RegX.rule hT rfl [] oVCoF86_7 (by decide +kernel) ?_
 conv => whnf
 refine And.intro ⟨by omega, by omega, by show (8:Int) * w.length ≤ _; omega, by omega⟩ ?_
 conv => whnf
 refine And.intro ⟨by omega, by omega, by show (8:Int) * w.length ≤ _; omega, by omega⟩ ?_
 conv => whnf
 have hg0 : ∀ j, j < w.length → 0 ≤ c * w.getD j 0 ∧ c * w.getD j 0 ≤ 1000000000 * 5761440 := fun j hj => by
  have := hw _ (getD_mem (x := (0 : Int)) hj)
  exact ⟨Int.mul_nonneg hc.1 this.1, Int.mul_le_mul hc.2 this.2 this.1 (by omega)⟩
 have hg1 : ∀ j, j < w.length → 0 ≤ partG c w j ∧ partG c w j ≤ 1000000000 * 5761440 := fun j hj => by
  have := hg0 j hj
  exact ⟨Int.tdiv_nonneg this.1 hs0, Int.le_trans (Int.tdiv_le_self _ this.1) this.2⟩
 have hl1 : ∀ i, i ≤ w.length → c - 1000000000 * 5761440 * i ≤ leftL c (partG c w) i ∧ leftL c (partG c w) i ≤ c := fun i => by
  induction i with
  | zero => intro _; simp [leftL]
  | succ i ih => intro hi; have := ih (by omega); have := hg1 i (by omega); rw [leftL_succ]; omega
 refine LoopX.rule hT (C := []) (ι := Nat) (fun i => i ≤ w.length) (fun i => mkSt [(2, .ptr 2 0), (3, .ptr 3 0), (5, .ptr 5 0), (8, .buf 27), (9, .buf 30), (10, .d (.int .i64 (leftL c (partG c w) i))), (32, .d (ints w)), (33, .d (.int .i64 w.length)), (34, .d (.int .i64 i))]
  [(2, .cells 3 [.d (.int .i64 c)]), (3, .cells 22 [.d (ints w)]), (5, .cells 3 [.d (.int .i64 w.sum)]), (27, seqB 3 1 iF 0 (fillL (partG c w) w.length i)), (30, seqB 3 1 iF 0 (fillL (fun j => (j : Int)) w.length i))]) (fun i => w.length - i) 0 (by omega) ?_ ?_
 · exact Entails.mk' [(2, 2), (3, 3), (5, 5), (27, 27), (30, 30)] rfl rfl ⟨lr, lr, lr, lr, lr, SV.le_int (by simp [leftL]), lr, lr, lr, trivial⟩
    ⟨rr, rr, rr, fillL_zero (by rfl) (fun _ => rfl), fillL_zero (by rfl) (fun _ => rfl), trivial⟩
 clear p1 h
 intro i p1
 conv => whnf
 refine br_intro (fun h => ?_) (fun h => ?_)
 · simp only [decide_eq_true_eq] at h
   have hi : i < w.length := by omega
   have b0 := hg0 i hi
   have b1 := hg1 i hi
   have b2 := hl1 i p1
   have e1 : (i : Int).toNat = i := Int.toNat_natCast i
   have l1 := fillL_length (partG c w) w.length i
   have l2 := fillL_length (fun j => (j : Int)) w.length i
   conv => whnf
   repeat (refine And.intro (by (try unfold inI64); (try dsimp only); (try simp only [e1, l1, l2, List.length_cons, List.length_append, List.length_singleton, List.length_nil]); omega) ?_; conv => whnf)
   refine And.intro (by show inI64 (partG c w i); unfold inI64; omega) ?_
   conv => whnf
   repeat (refine And.intro (by (try unfold inI64); (try dsimp only); (try simp only [e1, l1, l2, List.length_cons, List.length_append, List.length_singleton, List.length_nil]); omega) ?_; conv => whnf)
   simp only [e1, Nat.beq_refl, cond_true]
   conv => whnf
   refine And.intro (by show inI64 (leftL c (partG c w) i - partG c w i); unfold inI64; omega) ?_
   conv => whnf
   refine And.intro (by unfold inI64; omega) ?_
   conv => whnf
   refine ⟨i + 1, hi, by omega, ?_⟩
   have r1 : Res.le (.buf 3 1 (fillL (partG c w) w.length i).length fun j => bif Nat.beq j i then setAtD (rowF iF 0 (fillL (partG c w) w.length i) j) 0 [.int .i64 (partG c w i)] else rowF iF 0 (fillL (partG c w) w.length i) j) (seqB 3 1 iF 0 (fillL (partG c w) w.length (i + 1))) := by
    rw [← fillL_set]; exact Res.le_putF (fun _ _ => rfl)
   have r2 : Res.le (.buf 3 1 (fillL (fun j => (j : Int)) w.length i).length fun j => bif Nat.beq j i then setAtD (rowF iF 0 (fillL (fun j => (j : Int)) w.length i) j) 0 [.int .i64 (i : Int)] else rowF iF 0 (fillL (fun j => (j : Int)) w.length i) j) (seqB 3 1 iF 0 (fillL (fun j => (j : Int)) w.length (i + 1))) := by
    rw [← fillL_set]; exact Res.le_putF (fun _ _ => rfl)
   exact Entails.mk' [(2, 2), (3, 3), (5, 5), (27, 27), (30, 30)] rfl rfl ⟨lr, lr, lr, lr, lr, SV.le_int (leftL_succ c (partG c w) i).symm, lr, lr, lr, trivial⟩
    ⟨rr, rr, rr, r1, r2, trivial⟩
 simp only [decide_eq_false_iff_not] at h
 have e1 : i = w.length := by omega
 subst e1
 conv => whnf
 have hlen : (fillL (fun j => (j : Int)) w.length w.length).length = w.length := fillL_length _ _ _
 have hmemo : ∀ p, p ∈ fillL (fun j => (j : Int)) w.length w.length → ∃ j : Nat, p = j ∧ j < w.length := fun p hp => by
  simp only [fillL, List.mem_map, List.mem_range] at hp
  obtain ⟨j, hj, rfl⟩ := hp
  exact ⟨j, by simp [hj], hj⟩
 refine CallX.of (s173 113 (.int .i64 c) (ints w) (.int .i64 w.sum) 3 22 3 (cmpG c w) (fillL (fun j => (j : Int)) w.length w.length) (by omega) (fun p q hp hq => by
  obtain ⟨j, rfl, hj⟩ := hmemo p hp
  obtain ⟨k, rfl, hk⟩ := hmemo q hq
  exact s174 c w.sum w hc hw (by omega) (by omega) j k hj hk)) [(1000001, 30), (1000002, 2), (1000003, 3), (1000004, 5)] rfl ⟨lr, lr, trivial⟩ ⟨rr, rr, rr, rr, trivial⟩ rfl rfl ?_
 rintro x rout ⟨rfl, rfl⟩
 refine ⟨rfl, ?_⟩
 conv => whnf
 have hol : (orderG c w).length = w.length := by unfold orderG isort; rw [List.length_reverse, isortR_length, fillL_length]
 refine SliceX.freeze _ _ _ _ rfl ?_
 conv => whnf
 refine And.intro ⟨by omega, hleft.1, by show _ ≤ ((orderG c w).length : Int); rw [hol]; exact hleft.2⟩ ?_
 conv => whnf
 obtain ⟨idx, hidx⟩ : ∃ idx, idx = (orderG c w).take (leftL c (partG c w) w.length).toNat := ⟨_, rfl⟩
 have hil : idx.length = (leftL c (partG c w) w.length).toNat := by rw [hidx, List.length_take, hol]; omega
 have him : ∀ p ∈ idx, ∃ j : Nat, p = j ∧ j < w.length := fun p hp => by
  rw [hidx] at hp
  have := List.mem_of_mem_take hp
  unfold orderG isort at this
  rw [List.mem_reverse, isortR_mem] at this
  exact hmemo p this
 refine LoopX.rule hT (C := []) (ι := Nat × List Int) (fun p => p.1 ≤ idx.length ∧ p.2 = incL (fillL (partG c w) w.length w.length) (idx.take p.1) ∧ p.2.length = w.length ∧ (∀ x ∈ p.2, 0 ≤ x ∧ x ≤ 1000000000 * 5761440 + p.1))
  (fun p => mkSt [(8, .buf 27), (63, .d (ints idx)), (64, .d (.int .i64 idx.length)), (65, .d (.int .i64 p.1))] [(27, seqB 3 1 iF 0 p.2)]) (fun p => idx.length - p.1) (0, fillL (partG c w) w.length w.length) ⟨by simp, by simp [incL], fillL_length _ _ _, ?_⟩ ?_ ?_
 · intro x hx
   simp only [fillL, List.mem_map, List.mem_range] at hx
   obtain ⟨j, hj, rfl⟩ := hx
   have := hg1 j hj
   simp [hj]; omega
 · refine Entails.mk' [(27, 27)] rfl rfl ⟨lr, SV.le_ro ?_ (fun i hi => ?_), SV.le_int ?_, lr, trivial⟩ ⟨rr, trivial⟩
   · rw [hil]; omega
   · change rowF iF 0 (orderG c w) (Int.toNat 0 + i) = _
     rw [rowF_lt (show Int.toNat 0 + i < (orderG c w).length by simp only [Int.toNat_zero]; omega), rowF_lt (show i < idx.length by omega)]
     subst hidx
     simp [orderG]
   · rw [hil]; omega
 rintro ⟨i, P⟩ ⟨p1, p2, p3, p4⟩
 simp only at p1 p2 p3 p4
 conv => whnf
 refine br_intro (fun h => ?_) (fun h => ?_)
 · simp only [decide_eq_true_eq] at h
   have hi : i < idx.length := by omega
   obtain ⟨j, hj, hjw⟩ := him _ (List.getElem_mem hi)
   have e0 : (i : Int).toNat = i := Int.toNat_natCast i
   have e1 : idx.getD (i : Int).toNat 0 = j := by rw [getD_toNat hi, hj]
   have e2 : (j : Int).toNat = j := Int.toNat_natCast j
   conv => whnf
   repeat (refine And.intro (by (try unfold inI64); (try dsimp only); (try simp only [e1, e2, List.length_cons, List.length_append, List.length_singleton, List.length_nil]); omega) ?_; conv => whnf)
   have hjP : j < P.length := by omega
   have bP := p4 _ (getD_mem (x := (0 : Int)) hjP)
   refine And.intro (by simp only [e1, e2]; unfold inI64; omega) ?_
   conv => whnf
   repeat (refine And.intro (by (try unfold inI64); (try dsimp only); (try simp only [e1, e2, List.length_cons, List.length_append, List.length_singleton, List.length_nil]); omega) ?_; conv => whnf)
   refine ⟨(i + 1, P.set j (P.getD j 0 + 1)), ⟨hi, ?_, by simp only [List.length_set]; exact p3, ?_⟩, by simp only; omega, ?_⟩
   · simp only
     rw [take_snoc hi, incL_snoc, ← p2, hj, e2]
   · simp only
     intro x hx
     rcases List.mem_or_eq_of_mem_set hx with q | q
     · have := p4 x q; omega
     · subst q; omega
   · have r1 : Res.le (.buf 3 1 P.length fun k => bif Nat.beq k (idx.getD (i : Int).toNat 0).toNat then setAtD (rowF iF 0 P k) 0 [.int .i64 (P.getD (idx.getD (i : Int).toNat 0).toNat 0 + 1)] else rowF iF 0 P k) (seqB 3 1 iF 0 (P.set j (P.getD j 0 + 1))) := by
      rw [e1, e2]; exact Res.le_putF (fun _ _ => rfl)
     exact Entails.mk' [(27, 27)] rfl rfl ⟨lr, lr, lr, lr, trivial⟩ ⟨r1, trivial⟩
 simp only [decide_eq_false_iff_not] at h
 have e1 : i = idx.length := by omega
 subst e1
 conv => whnf
 rw [List.take_length, hidx] at p2
 refine .freeze _ 27 3 1 _ _ rfl ?_
 refine .ret _ ?_
 conv => whnf
 refine ⟨[], ⟨?_, rfl⟩, trivial⟩
 conv => lhs; whnf
 show SV.d (ints P) = SV.d (ints (splitG c w))
 rw [p2]; rfl
theorem left_sum (c : Int) (w : List Int) (hc : 0 ≤ c) (hw : ∀ x ∈ w, 0 ≤ x) (hs : 0 < w.sum) : ∀ i, i ≤ w.length → ∃ R, 0 ≤ R ∧ R ≤ w.sum * i ∧ w.sum * ((List.range i).map (partG c w)).sum + R = c * (w.take i).sum := by
 intro i
 induction i with
 | zero => intro _; exact ⟨0, by omega, by simp, by simp⟩
 | succ i ih =>
   intro hi
   obtain ⟨R, h1, h2, h3⟩ := ih (by omega)
   have hx : w.getD i 0 = w[i] := by rw [List.getD_eq_getElem?_getD]; simp [show i < w.length by omega]
   have h4 := Int.tmod_add_mul_tdiv (c * w[i]) w.sum
   have h5 : 0 ≤ c * w[i] := Int.mul_nonneg hc (hw _ (List.getElem_mem _))
   have h6 := Int.tmod_nonneg w.sum h5
   have h7 := Int.tmod_lt_of_pos (c * w[i]) hs
   refine ⟨R + (c * w[i]).tmod w.sum, by omega, ?_, ?_⟩
   · rw [show ((i + 1 : Nat) : Int) = (i : Int) + 1 by push_cast; rfl, Int.mul_add, Int.mul_one]; omega
   · rw [sum_take (show i < w.length by omega), Int.mul_add, ← h3, List.range_succ, List.map_append, List.sum_append, List.map_singleton, List.sum_singleton, Int.mul_add]
     have : partG c w i = (c * w[i]).tdiv w.sum := by unfold partG; rw [hx]
     rw [this]; omega
theorem left_bound (c : Int) (w : List Int) (hc : 0 ≤ c) (hw : ∀ x ∈ w, 0 ≤ x) (hs : 0 < w.sum) : 0 ≤ leftL c (partG c w) w.length ∧ leftL c (partG c w) w.length ≤ w.length := by
 obtain ⟨R, h1, h2, h3⟩ := left_sum c w hc hw hs w.length (Nat.le_refl _)
 rw [List.take_length] at h3
 have e : w.sum * leftL c (partG c w) w.length = R := by
  unfold leftL
  rw [Int.mul_sub, Int.mul_comm w.sum c]; omega
 constructor
 · refine Int.not_lt.1 fun h => ?_
   have := Int.mul_neg_of_pos_of_neg hs h
   omega
 · exact Int.le_of_mul_le_mul_left (by rw [e]; exact h2) hs
theorem s35 (c : Int) (w : List Int) (hn : w.length < 20) : FSpec Tryz.prog 65 [.d (.int .i64 c), .d (ints w)] []
 (fun y r => y = .tup [.d (if splitF c w = 0 then ints (splitG c w) else .nilsl), .d (.int .i64 (splitF c w))] ∧ r = []) := by
 refine spec_of hT (C := []) Tryz.func65 rfl Tryz.call65 rfl rfl rfl ?_
 conv => whnf
 refine CallX.pure (s119 _ _ _) ⟨lr, lr, lr, trivial⟩ rfl ?_
 conv => whnf
 refine CallX.pure (s107 _ _) ⟨lr, lr, trivial⟩ rfl ?_
 conv => whnf
 refine CallX.pure (s107 _ _) ⟨lr, lr, trivial⟩ rfl ?_
 conv => whnf
 refine CallX.pure (s105 [_, _] (by simp)) ⟨SV.le_lit (by rfl) (by rfl), trivial⟩ rfl ?_
 have hnl : ¬ (50 < w.length) := by omega
 generalize he : firstE _ = e
 have he2 : e = if 0 ≤ c ∧ c ≤ 1000000000 then 0 else 1 := by
  rw [← he]
  simp only [firstE]
  by_cases h : 0 ≤ c ∧ c ≤ 1000000000 <;> simp [h] <;> omega
 conv => whnf
 refine br_intro (fun h => ?_) (fun h => ?_)
 · simp at h
   conv => whnf
   refine .ret _ ?_
   conv => whnf
   refine ⟨[], ⟨?_, rfl⟩, trivial⟩
   show SV.tup [.d .nilsl, .d (.int .i64 e)] = _
   have hc : ¬ (0 ≤ c ∧ c ≤ 1000000000) := fun q => h (by rw [he2, if_pos q])
   rw [if_neg hc] at he2
   have : splitF c w = 1 := by simp only [splitF]; rw [if_pos hc]
   rw [this, he2]; rfl
 simp at h
 have hc : 0 ≤ c ∧ c ≤ 1000000000 := Classical.byContradiction fun q => by rw [if_neg q] at he2; omega
 conv => whnf
 refine LoopX.rule hT (C := []) (ι := Nat) (fun i => i ≤ w.length ∧ (∀ x ∈ w.take i, 0 ≤ x ∧ x ≤ 5761440)) (fun i => mkSt [(0, .d (.int .i64 c)), (1, .d (ints w)), (7, .d (.int .i64 (w.take i).sum)), (23, .d (ints w)), (24, .d (.int .i64 w.length)), (25, .d (.int .i64 i))] []) (fun i => w.length - i) 0 ⟨by omega, by simp⟩ ?_ ?_
 · refine Entails.mk' [] rfl rfl ⟨lr, lr, lr, lr, lr, lr, trivial⟩ trivial
 rintro i ⟨p1, p2⟩
 conv => whnf
 refine br_intro (fun h => ?_) (fun h => ?_)
 · simp only [decide_eq_true_eq] at h
   have hi : i < w.length := by omega
   have b2 : 0 ≤ (w.take i).sum := sum_nonneg fun x hx => (p2 x hx).1
   have b3 : (w.take i).sum ≤ 5761440 * (w.take i).length := sum_le fun x hx => (p2 x hx).2
   have b4 : (w.take i).length = i := by simp; omega
   conv => whnf
   repeat (refine And.intro (by (try unfold inI64); (try dsimp only); (try simp only [List.length_cons, List.length_append, List.length_singleton, List.length_nil]); omega) ?_; conv => whnf)
   refine CallX.pure (s119 _ _ _) ⟨lr, lr, lr, trivial⟩ rfl ?_
   rw [getD_toNat hi]
   conv => whnf
   refine br_intro (fun h2 => ?_) (fun h2 => ?_)
   · conv => whnf
     refine .ret _ ?_
     conv => whnf
     refine ⟨[], ⟨?_, rfl⟩, trivial⟩
     show SV.tup [.d .nilsl, .d (.int .i64 1)] = _
     have : splitF c w = 1 := by
      simp only [splitF]
      rw [if_neg (by omega), if_neg hnl, if_pos]
      rw [List.any_eq_true]
      exact ⟨w[i], List.getElem_mem hi, h2⟩
     rw [this]; rfl
   · simp at h2
     conv => whnf
     repeat (refine And.intro (by (try unfold inI64); (try dsimp only); (try simp only [List.length_cons, List.length_append, List.length_singleton, List.length_nil]); omega) ?_; conv => whnf)
     refine ⟨i + 1, ⟨hi, fun x hx => ?_⟩, by omega, ?_⟩
     · rw [← List.take_append_getElem hi] at hx
       rcases List.mem_append.1 hx with q | q
       · exact p2 x q
       · simp at q; subst q; omega
     · exact Entails.mk' [] rfl rfl ⟨lr, lr, SV.le_int (sum_take hi).symm, lr, lr, lr, trivial⟩ trivial
 simp only [decide_eq_false_iff_not] at h
 have e1 : i = w.length := by omega
 subst e1
 rw [List.take_length] at p2 ⊢
 have hany : w.any (fun x => !decide (0 ≤ x ∧ x ≤ 5761440)) = false := by
  rw [List.any_eq_false]; intro x hx; have := p2 x hx; simp; omega
 conv => whnf
 refine br_intro (fun h2 => ?_) (fun h2 => ?_)
 · conv => whnf
   refine .ret _ ?_
   conv => whnf
   refine ⟨[], ⟨?_, rfl⟩, trivial⟩
   show SV.tup [.d .nilsl, .d (.int .i64 8)] = _
   simp at h2
   have : splitF c w = 8 := by
    simp only [splitF]
    rw [if_neg (by omega), if_neg hnl, hany, if_neg (by simp), if_pos h2]
   rw [this]; rfl
 · simp at h2
   have hs0 : 0 ≤ w.sum := sum_nonneg fun x hx => (p2 x hx).1
   conv => whnf
   refine CallX.pure (s120 c w hc p2 hn h2 (left_bound c w hc.1 (fun x hx => (p2 x hx).1) (by omega))) ⟨lr, lr, trivial⟩ rfl ?_
   conv => whnf
   refine .ret _ ?_
   conv => whnf
   refine ⟨[], ⟨?_, rfl⟩, trivial⟩
   show SV.tup [.d (ints (splitG c w)), .d (.int .i64 0)] = _
   have : splitF c w = 0 := by
    simp only [splitF]
    rw [if_neg (by omega), if_neg hnl, hany, if_neg (by simp), if_neg h2]
   rw [this]; rfl
section
variable {α : Type} (cmp : α → α → Int)
variable (R : α → α → Prop) (tr : ∀ a b c, R a b → R b c → R a c)
include tr in
include tr in
end
theorem all_step {p : Nat → Prop} {i : Nat} (h : ∀ j, j < i → p j) (h1 : p i) : ∀ j, j < i + 1 → p j := fun j hj => by
 rcases Nat.lt_or_ge j i with q | q
 · exact h j q
 · have : j = i := by omega
   subst this; exact h1
theorem splitF_31 : splitF 3 [1, 1] = 0 := by decide +kernel
theorem splitG_31 : splitG 3 [1, 1] = [2, 1] := by decide +kernel
structure Gate where
 key : List UInt8
 area : List UInt8
 clock : Int
def g0 : Gate := ⟨[], [], 0⟩
structure Pas where
 tm : Int
 gate : List UInt8
 plate : List UInt8
 cents : Int
def plCh (c : UInt8) : Bool := (decide (65 ≤ c.toNat) && decide (c.toNat ≤ 90)) || (decide (48 ≤ c.toNat) && decide (c.toNat ≤ 57))
def isPlateB (s : List UInt8) : Bool := s.all plCh && decide (2 ≤ s.length) && decide (s.length ≤ 10)
theorem s185 (s : List UInt8) (hl : s.length ≤ 2^40) : FSpec Tryz.prog 114 [.d (.str s)] [] (fun x r => x = .d (.bool (isPlateB s)) ∧ r = []) := by
 refine spec_of hT (C := []) Tryz.func114 rfl Tryz.call114 rfl rfl rfl ?_
 conv => whnf
 refine LoopX.rule hT (C := []) (ι := Nat) (fun i => i ≤ s.length ∧ ∀ j, j < i → plCh (s.getD j 0) = true) (fun i => mkSt [(0, .d (.str s)), (6, .d (.int .i64 s.length)), (7, .d (.int .i64 i))] []) (fun i => s.length - i) 0 ⟨by omega, by omega⟩ (by (refine Entails.mk' [] rfl rfl ?_ ?_ <;> repeat' (first | exact True.intro | exact lr | exact rr | exact SV.le_int (by omega) | exact SV.le_any _ | refine And.intro ?_ ?_)); done) ?_
 rintro i ⟨p1, p2⟩
 have e1 : (i : Int).toNat = i := Int.toNat_natCast i
 have hbad : i < s.length → plCh (s.getD i 0) = false → isPlateB s = false := fun hi h => by
  have : s.all plCh = false := by
   rw [List.all_eq_false]; exact ⟨s.getD i 0, getD_mem hi, by rw [h]; simp⟩
  simp only [isPlateB, this, Bool.false_and]
 have hall : i = s.length → s.all plCh = true := fun hi => by
  rw [List.all_eq_true]; intro c hc
  obtain ⟨j, hj, rfl⟩ := mem_getD (d := 0) hc
  exact p2 j (by omega)
 conv => whnf
 repeat' (first | (refine br_intro ?_ ?_ <;> intro hb <;> (try simp only [brs] at hb) <;> conv => whnf) | omega | (refine And.intro ?_ ?_; ((try dsimp only); first | omega | (refine szA rfl ?_; omega) | (refine szB rfl ?_; omega) | (unfold inI64; omega) | exact rfl | (simp only [lns] at *; omega) | decide | (unfold inI64; decide)); conv => whnf) | decide | assumption)
 all_goals first
  | (refine ⟨i + 1, ⟨by omega, all_step p2 (by clear p2 hbad hall; simp only [e1] at *; simp only [plCh]; grind)⟩, by omega, (by (refine Entails.mk' [] rfl rfl ?_ ?_ <;> repeat' (first | exact True.intro | exact lr | exact rr | exact SV.le_int (by omega) | exact SV.le_any _ | refine And.intro ?_ ?_)); done)⟩)
  | (refine .ret _ ?_
     conv => whnf
     refine ⟨[], ⟨?_, rfl⟩, trivial⟩
     conv => lhs; whnf
     congr 2
     first
      | (rw [hbad (by omega) (by clear p2 hbad hall; simp only [e1] at *; simp only [plCh]; grind)])
      | (unfold isPlateB; rw [hall (by omega)]; clear p2 hbad hall; grind))
def cmpS (a b : List UInt8) : Int := if Op.bytesLess a b = true then -1 else if Op.bytesLess b a = true then 1 else 0
theorem s211 (a : List UInt8) : FSpec Tryz.prog 111 [.d (.str a)] [] (fun x r => x = .d (.bool false) ∧ r = []) := by
 refine spec_of hT (C := []) Tryz.func111 rfl Tryz.call111 rfl rfl rfl ?_
 conv => whnf
 refine .ret _ ?_
 conv => whnf
 refine ⟨[], ⟨?_, rfl⟩, trivial⟩
 conv => lhs; whnf
 simp
theorem less_tri : ∀ (a b : List UInt8), Op.bytesLess a b = false → a ≠ b → Op.bytesLess b a = true := by
 intro a
 induction a with
 | nil => intro b h hn; cases b with
   | nil => exact absurd rfl hn
   | cons y ys => simp [Op.bytesLess] at h
 | cons x xs ih =>
   intro b h hn
   cases b with
   | nil => simp [Op.bytesLess]
   | cons y ys =>
     simp only [Op.bytesLess] at h ⊢
     grind
theorem s184 (a b : List UInt8) : FSpec Tryz.prog 78 [.d (.str a), .d (.str b)] [] (fun x r => x = .d (.int .i64 (cmpS a b)) ∧ r = []) := by
 refine spec_of hT (C := []) Tryz.func78 rfl Tryz.call78 rfl rfl rfl ?_
 conv => whnf
 repeat' (first | (refine CallX.exact (s211 _) rfl rfl ?_; rotate_right; conv => whnf) | (refine br_intro ?_ ?_ <;> intro hb <;> (try simp only [brs] at hb) <;> conv => whnf) | omega | (refine And.intro ?_ ?_; ((try dsimp only); first | omega | (refine szA rfl ?_; omega) | (refine szB rfl ?_; omega) | (unfold inI64; omega) | exact rfl | (simp only [lns] at *; omega) | decide | (unfold inI64; decide)); conv => whnf) | decide | assumption)
 all_goals
  refine .ret _ ?_
  conv => whnf
  refine ⟨[], ⟨?_, rfl⟩, trivial⟩
  conv => lhs; whnf
  congr 2; unfold cmpS; grind [less_tri]
theorem s182 (l : List Int) (hl : l.length ≤ 2^40) : FSpec Tryz.prog 77 [.d (ints l)] [] (fun x r => x = .d (.int .i64 (firstE l)) ∧ r = []) := by
 refine spec_of hT (C := []) Tryz.func77 rfl Tryz.call77 rfl rfl rfl ?_
 conv => whnf
 refine LoopX.rule hT (C := []) (ι := Nat) (fun i => i ≤ l.length ∧ firstE l = firstE (l.drop i)) (fun i => mkSt [(3, .d (.int .i64 0)), (6, .d (ints l)), (7, .d (.int .i64 l.length)), (8, .d (.int .i64 i))] []) (fun i => l.length - i) 0 ⟨by omega, by simp⟩ (by (refine Entails.mk' [] rfl rfl ?_ ?_ <;> repeat' (first | exact True.intro | exact lr | exact rr | exact SV.le_int (by omega) | exact SV.le_any _ | refine And.intro ?_ ?_)); done) ?_
 rintro i ⟨p1, p2⟩
 have hd : i < l.length → l.drop i = l.getD i 0 :: l.drop (i + 1) := fun hi => by rw [List.drop_eq_getElem_cons hi, List.getD_eq_getElem?_getD, List.getElem?_eq_getElem hi]; rfl
 conv => whnf
 repeat' (first | (refine br_intro ?_ ?_ <;> intro hb <;> (try simp only [brs] at hb) <;> conv => whnf) | omega | (refine And.intro ?_ ?_; ((try dsimp only); first | omega | (refine szA rfl ?_; omega) | (refine szB rfl ?_; omega) | (unfold inI64; omega) | exact rfl | (simp only [lns] at *; omega) | decide | (unfold inI64; decide)); conv => whnf) | decide | assumption)
 · refine .ret _ ?_
   conv => whnf
   refine ⟨[], ⟨?_, rfl⟩, trivial⟩
   conv => lhs; whnf
   congr 2; rw [p2, hd (by omega), firstE, if_neg hb, Int.toNat_natCast]
 · exact ⟨i + 1, ⟨by omega, by rw [p2, hd (by omega), firstE, if_pos hb]⟩, by omega, (by (refine Entails.mk' [] rfl rfl ?_ ?_ <;> repeat' (first | exact True.intro | exact lr | exact rr | exact SV.le_int (by omega) | exact SV.le_any _ | refine And.intro ?_ ?_)); done)⟩
 · refine .ret _ ?_
   conv => whnf
   refine ⟨[], ⟨?_, rfl⟩, trivial⟩
   conv => lhs; whnf
   congr 2; rw [p2, List.drop_eq_nil_iff.2 (by omega)]; rfl
def ixF (p : Nat → Bool) : Nat → Int
 | 0 => -1
 | n + 1 => if ixF p n = -1 then (if p n = true then n else -1) else ixF p n
theorem ixF_none {p : Nat → Bool} : ∀ {n : Nat}, (∀ j, j < n → p j = false) → ixF p n = -1 := by
 intro n
 induction n with
 | zero => intro _; rfl
 | succ n ih => intro h; rw [ixF, if_pos (ih fun j hj => h j (by omega)), h n (by omega)]; rfl
theorem ixF_hit {p : Nat → Bool} {n i : Nat} (hi : i < n) (h : ∀ j, j < i → p j = false) (h1 : p i = true) : ixF p n = i := by
 induction n with
 | zero => omega
 | succ n ih =>
   rw [ixF]
   by_cases q : i < n
   · rw [ih q, if_neg (by omega)]
   · have : i = n := by omega
     subst this
     rw [if_pos (ixF_none h), if_pos h1]
theorem ixF_bd {p : Nat → Bool} : ∀ {n : Nat}, -1 ≤ ixF p n ∧ ixF p n < n ∧ (0 ≤ ixF p n → p (ixF p n).toNat = true) := by
 intro n
 induction n with
 | zero => simp [ixF]
 | succ n ih =>
   rw [ixF]
   split
   · split
     · rename_i h; exact ⟨by omega, by omega, fun _ => by simpa using h⟩
     · exact ⟨by omega, by omega, fun h => by omega⟩
   · exact ⟨ih.1, by omega, ih.2.2⟩
theorem s154 (n : Int) : FSpec Tryz.prog 115 [.d (.int .i64 n)] [] (fun x r => x = .d (.bool (decide (0 ≤ n ∧ n ≤ 5761439))) ∧ r = []) := by
 refine spec_of hT (C := []) Tryz.func115 rfl Tryz.call115 rfl rfl rfl ?_
 conv => whnf
 repeat' (first | (refine CallX.exact (s119 _ _ _) rfl rfl ?_; rotate_right; conv => whnf) | (refine br_intro ?_ ?_ <;> intro hb <;> (try simp only [brs] at hb) <;> conv => whnf) | omega | (refine And.intro ?_ ?_; ((try dsimp only); first | omega | (refine szA rfl ?_; omega) | (refine szB rfl ?_; omega) | (unfold inI64; omega) | exact rfl | (simp only [lns] at *; omega) | decide | (unfold inI64; decide)); conv => whnf) | decide | assumption)
 refine .ret _ ?_
 conv => whnf
 refine ⟨[], ⟨?_, rfl⟩, trivial⟩
 conv => lhs; whnf
def fillA {α : Type} (d : α) (f : Nat → α) (n i : Nat) : List α := (List.range n).map fun j => if j < i then f j else d
theorem fillA_length {α : Type} {d : α} {f : Nat → α} {n i : Nat} : (fillA d f n i).length = n := by simp [fillA]
theorem fillA_set {α : Type} {d : α} {f : Nat → α} {n i : Nat} {x : α} (hx : x = f i) : (fillA d f n i).set i x = fillA d f n (i + 1) := by
 subst hx
 refine List.ext_getElem (by simp [fillA]) (fun j h1 h2 => ?_)
 simp only [fillA, List.getElem_set, List.getElem_map, List.getElem_range]
 by_cases h : i = j
 · subst h; simp
 · rw [if_neg h]
   by_cases h3 : j < i
   · rw [if_pos h3, if_pos (by omega)]
   · rw [if_neg h3, if_neg (by omega)]
theorem fillA_set' {α : Type} {d : α} {f : Nat → α} {n i : Nat} {x : α} (hx : x = f i) : (fillA d f n i).set (i : Int).toNat x = fillA d f n (i + 1) := by
 rw [Int.toNat_natCast]; exact fillA_set hx
theorem fillA_get {α : Type} {d : α} {f : Nat → α} {n j : Nat} (h : j < n) : (fillA d f n n).getD j d = f j := by
 rw [List.getD_eq_getElem?_getD]; simp [fillA, h]
structure Chg where
 hire : List UInt8
 vehicle : List UInt8
 pas : Int
 cents : Int
def ch0 : Chg := ⟨[], [], 0, 0⟩
structure Lin where
 kind : Int
 key : List UInt8
 cents : Int
deriving DecidableEq
theorem mem_len {l : List (List UInt8)} {u : List UInt8} (h : u ∈ l) (q : l.all (fun x => decide (x.length ≤ 8)) = true) : u.length ≤ 8 := by
 have := List.all_eq_true.1 q u h
 exact of_decide_eq_true this
theorem isKey_nil : isKeyB [] = false := by decide
theorem less_nil (a : List UInt8) : Op.bytesLess a [] = false := by cases a <;> rfl
theorem Res.le_put2 {α : Type} {f : α → List DV} {d : α} {l : List α} {x y : α} {e k j1 j2 : Nat} {ds1 ds2 : List DV} (h1 : ∀ z, setAtD (f z) 0 ds1 = f x) (h2 : ∀ z, setAtD (f z) 0 ds2 = f y) :
 Res.le (.buf e k l.length fun i => bif Nat.beq i j2 then setAtD (bif Nat.beq i j1 then setAtD (rowF f d l i) 0 ds1 else rowF f d l i) 0 ds2 else bif Nat.beq i j1 then setAtD (rowF f d l i) 0 ds1 else rowF f d l i) (seqB e k f d ((l.set j1 x).set j2 y)) := by
 refine Res.le_buf (by simp) (fun k hk => ?_)
 have e1 := rows_putG (f := f) (d := d) (l := l) (x := x) (j := j1) (off := 0) (ds := ds1) (get := rowF f d l) (fun _ _ => rfl) (fun z _ => h1 z)
 have e2 := rows_putG (f := f) (d := d) (l := l.set j1 x) (x := y) (j := j2) (off := 0) (ds := ds2) (get := fun i => bif Nat.beq i j1 then setAtD (rowF f d l i) 0 ds1 else rowF f d l i) (fun k hk => e1 k (by simpa using hk)) (fun z _ => h2 z)
 exact e2 k (by simpa using hk)
theorem SV.le_upd {α : Type} {f : α → List DV} {d : α} {l : List α} {k j off : Nat} {ds : List DV} (g : α → α) (hg : ∀ y, setAtD (f y) off ds = f (g y)) :
 SV.le (.d (.ro k l.length fun i => bif Nat.beq i j then setAtD (rowF f d l i) off ds else rowF f d l i)) (.d (seqD k f d (l.set j (g (l.getD j d))))) :=
 SV.le_putF fun y hy => by rw [hg, List.getD_eq_getElem?_getD, hy]; rfl
end Go.Proofs.YteehenjdddlnnaaGreatDoor
namespace Go.Proofs
open Go.Shelf
end Go.Proofs
set_option maxRecDepth 20000
namespace Go.Proofs.YteehenjdddlnnaaGreatDoor
open Go Go.Eng Go.RowKit
theorem Res.le_appF {α : Type} {f : α → List DV} {d : α} {l m : List α} {e k : Nat} : Res.le (.buf e k (l.length + m.length) (appGet l.length (rowF f d l) (rowF f d m))) (seqB e k f d (l ++ m)) := by
 refine Res.le_buf (by simp) (fun i hi => ?_)
 by_cases h : i < l.length
 · rw [appGet_lt h]; simp only [rowF]; rw [List.getD_eq_getElem?_getD, List.getD_eq_getElem?_getD, List.getElem?_append_left h]
 · rw [appGet_ge (by omega)]; simp only [rowF]; rw [List.getD_eq_getElem?_getD, List.getD_eq_getElem?_getD, List.getElem?_append_right (by omega)]
theorem pas_eq {a b : Pas} : a = b ↔ a.tm = b.tm ∧ a.gate = b.gate ∧ a.plate = b.plate ∧ a.cents = b.cents := by cases a; cases b; simp
instance : DecidableEq Pas := fun _ _ => decidable_of_iff _ pas_eq.symm
structure Slt where
 day : Int
 many : Int
structure Wnt where
 v : List UInt8
 fr : Int
 to : Int
def wn0 : Wnt := ⟨[], 0, 0⟩
structure Plc where
 v : List UInt8
 day : Int
def pl0 : Plc := ⟨[], 0⟩
structure Bsy where
 v : List UInt8
 fr : Int
 to : Int
 cents : Int
def namesB (w : List Wnt) (l : List Plc) : Prop := w.length = l.length ∧ ∀ i, i < w.length → (w.getD i wn0).v = (l.getD i pl0).v
instance (w : List Wnt) (l : List Plc) : Decidable (namesB w l) := inferInstanceAs (Decidable (_ ∧ _))
theorem Res.le_upd {α : Type} {f : α → List DV} {d : α} {l : List α} {e k j off : Nat} {ds : List DV} (g : α → α) (hg : ∀ y, setAtD (f y) off ds = f (g y)) :
 Res.le (.buf e k l.length fun i => bif Nat.beq i j then setAtD (rowF f d l i) off ds else rowF f d l i) (seqB e k f d (l.set j (g (l.getD j d)))) :=
 Res.le_putF fun y hy => by rw [hg, List.getD_eq_getElem?_getD, hy]; rfl
def allK {α : Type} (K : α → Prop) (k : Nat) (l : List α) : Prop := l.length ≤ k ∧ ∀ x ∈ l, K x
theorem allK_snoc {α : Type} {K : α → Prop} {l : List α} {k m : Nat} {x : α} (h : allK K k l) (hm : k + 1 ≤ m) (hx : K x) : allK K m (l ++ [x]) := by
 refine ⟨by rw [List.length_append]; have := h.1; simp; omega, fun p hp => ?_⟩
 rcases List.mem_append.1 hp with q | q
 · exact h.2 p q
 · simp at q; subst q; exact hx
theorem allK_le {α : Type} {K : α → Prop} {l : List α} {k m : Nat} (h : allK K k l) (hm : k ≤ m) : allK K m l := ⟨by have := h.1; omega, h.2⟩
theorem allK_upd {α : Type} {K : α → Prop} {l : List α} {k j : Nat} {d : α} {g : α → α} (h : allK K k l) (hg : ∀ y, K y → K (g y)) : allK K k (l.set j (g (l.getD j d))) := by
 refine ⟨by rw [List.length_set]; exact h.1, fun p hp => ?_⟩
 by_cases hj : j < l.length
 · rcases List.mem_or_eq_of_mem_set hp with q | q
   · exact h.2 p q
   · subst q; exact hg _ (h.2 _ (getD_mem hj))
 · rw [List.set_eq_of_length_le (by omega)] at hp; exact h.2 p hp
theorem rows_updG {α : Type} {f : α → List DV} {d : α} {l : List α} {j off : Nat} {ds : List DV} {get : Nat → List DV} (hg : ∀ i, i < l.length → get i = rowF f d l i) (g : α → α) (h : ∀ y, setAtD (f y) off ds = f (g y)) :
 ∀ i, i < (l.set j (g (l.getD j d))).length → (bif Nat.beq i j then setAtD (get i) off ds else get i) = rowF f d (l.set j (g (l.getD j d))) i := by
 rw [List.length_set]
 exact rows_putG hg (fun y hy => by rw [h, List.getD_eq_getElem?_getD, hy]; rfl)
abbrev updL {α : Type} (l : List α) (j : Nat) (d : α) (g : α → α) : List α := l.set j (g (l.getD j d))
theorem SV.le_upd2 {α : Type} {f : α → List DV} {d : α} {l : List α} {k j1 j2 o1 o2 : Nat} {ds1 ds2 : List DV} (g1 g2 : α → α) (h1 : ∀ y, setAtD (f y) o1 ds1 = f (g1 y)) (h2 : ∀ y, setAtD (f y) o2 ds2 = f (g2 y)) :
 SV.le (.d (.ro k l.length fun i => bif Nat.beq i j2 then setAtD (bif Nat.beq i j1 then setAtD (rowF f d l i) o1 ds1 else rowF f d l i) o2 ds2 else (bif Nat.beq i j1 then setAtD (rowF f d l i) o1 ds1 else rowF f d l i)))
  (.d (seqD k f d (updL (updL l j1 d g1) j2 d g2))) :=
 SV.le_ro (by simp) (fun i hi => rows_updG (rows_updG (fun _ _ => rfl) g1 h1) g2 h2 i (by simpa using hi))
theorem SV.le_upd3 {α : Type} {f : α → List DV} {d : α} {l : List α} {k j1 j2 j3 o1 o2 o3 : Nat} {ds1 ds2 ds3 : List DV} (g1 g2 g3 : α → α) (h1 : ∀ y, setAtD (f y) o1 ds1 = f (g1 y)) (h2 : ∀ y, setAtD (f y) o2 ds2 = f (g2 y)) (h3 : ∀ y, setAtD (f y) o3 ds3 = f (g3 y)) :
 SV.le (.d (.ro k l.length fun i => bif Nat.beq i j3 then setAtD (bif Nat.beq i j2 then setAtD (bif Nat.beq i j1 then setAtD (rowF f d l i) o1 ds1 else rowF f d l i) o2 ds2 else (bif Nat.beq i j1 then setAtD (rowF f d l i) o1 ds1 else rowF f d l i)) o3 ds3
  else (bif Nat.beq i j2 then setAtD (bif Nat.beq i j1 then setAtD (rowF f d l i) o1 ds1 else rowF f d l i) o2 ds2 else (bif Nat.beq i j1 then setAtD (rowF f d l i) o1 ds1 else rowF f d l i))))
  (.d (seqD k f d (updL (updL (updL l j1 d g1) j2 d g2) j3 d g3))) :=
 SV.le_ro (by simp) (fun i hi => rows_updG (rows_updG (rows_updG (fun _ _ => rfl) g1 h1) g2 h2) g3 h3 i (by simpa using hi))
def sameL {α : Type} (l c : List α) : Prop := c.length = l.length ∧ ∀ x ∈ c, x ∈ l
theorem sameL_set {α : Type} {l c : List α} {j : Nat} {x : α} (h : sameL l c) (hx : x ∈ l) : sameL l (c.set j x) :=
 ⟨by rw [List.length_set]; exact h.1, fun y hy => by rcases List.mem_or_eq_of_mem_set hy with q | q; exact h.2 y q; subst q; exact hx⟩
def subL {α : Type} (l c : List α) : Prop := c.length ≤ l.length ∧ ∀ x ∈ c, x ∈ l
def oVShG12_8 : List (Nat × List Nat) := [(0, []), (1, []), (2, []), (3, []), (4, []), (5, [3, 4]), (6, [3, 4, 5]), (7, [3, 4, 5]), (8, [3, 4]), (9, [3, 4]), (10, [3, 4]), (11, []), (12, []), (13, [])]
def oVShG13_10 : List (Nat × List Nat) := [(0, []), (1, []), (2, []), (3, []), (4, [3]), (5, [3]), (6, []), (7, []), (8, []), (9, [3, 4, 5, 6, 7, 8]), (10, [3, 4, 5, 6, 7, 8, 9]), (11, [3, 4, 5, 6, 7, 8, 9]), (12, [3, 4, 5, 6, 7, 8]), (13, [3, 4, 5, 6, 7, 8]), (14, [3, 4, 5, 6, 7, 8]), (15, [3, 4, 5, 6, 7, 8, 9, 10, 11, 12, 13, 14]), (16, [3, 4, 5, 6, 7, 8, 9, 10, 11, 12, 13, 14]), (17, [3, 4, 5, 6, 7, 8, 9, 10, 11, 12, 13, 14, 15, 16]), (18, [3, 4, 5, 6, 7, 8, 9, 10, 11, 12, 13, 14, 15, 16]), (19, []), (20, []), (21, []), (22, [])]
structure Ned where
 st : List UInt8
 many : Int
def ndF : Ned → List DV := fun s => [.str s.st, .int .i64 s.many]
def nd0 : Ned := ⟨[], 0⟩
abbrev neds (l : List Ned) : DV := seqD 2 ndF nd0 l
structure Roa where
 a : List UInt8
 b : List UInt8
 car : Int
 ride : Int
def rdF : Roa → List DV := fun s => [.str s.a, .str s.b, .int .i64 s.car, .int .i64 s.ride]
def rd0 : Roa := ⟨[], [], 0, 0⟩
abbrev roas (l : List Roa) : DV := seqD 4 rdF rd0 l
structure Mov where
 a : List UInt8
 b : List UInt8
 many : Int
def mvF : Mov → List DV := fun s => [.str s.a, .str s.b, .int .i64 s.many]
def mv0 : Mov := ⟨[], [], 0⟩
abbrev movs (l : List Mov) : DV := seqD 3 mvF mv0 l
def ndE (l : List Ned) (i : Nat) : Int :=
 let x := l.getD i nd0
 if isKeyB x.st = false then 5 else if 0 < i ∧ strLe x.st (l.getD (i - 1) nd0).st = true then 7 else if ¬ (-20 ≤ x.many ∧ x.many ≤ 20) then 1 else 0
def ndsE (l : List Ned) : Int := if 10 < l.length then 2 else firstAt (ndE l) l.length
def ndK (x : Ned) : Prop := x.st.length ≤ 2^40
def ndOk (l : List Ned) : Prop := l.length ≤ 2^40 ∧ ∀ x ∈ l, ndK x
def endsC (a b c d : List UInt8) : Int := firstE [cmpS a c, cmpS b d]
def rdE (l : List Roa) (i : Nat) : Int :=
 let x := l.getD i rd0
 if isKeyB x.a = false ∨ isKeyB x.b = false then 5 else if x.a = x.b then 14 else if 0 < i ∧ 0 ≤ endsC (l.getD (i - 1) rd0).a (l.getD (i - 1) rd0).b x.a x.b then 7 else if ¬ ((0 ≤ x.car ∧ x.car ≤ 1000000) ∧ (0 ≤ x.ride ∧ x.ride ≤ 1000000)) then 1 else 0
def rdsE (l : List Roa) : Int := if 2500 < l.length then 2 else firstAt (rdE l) l.length
def rdK (x : Roa) : Prop := x.a.length ≤ 2^40 ∧ x.b.length ≤ 2^40
def rdOk (l : List Roa) : Prop := l.length ≤ 2^40 ∧ ∀ x ∈ l, rdK x
theorem s204 (a b c d : List UInt8) : FSpec Tryz.prog 49 [.d (.str a), .d (.str b), .d (.str c), .d (.str d)] [] (fun x r => x = .d (.int .i64 (endsC a b c d)) ∧ r = []) := by
 refine spec_of hT (C := []) Tryz.func49 rfl Tryz.call49 rfl rfl rfl ?_
 conv => whnf
 repeat' (first | (refine CallX.exact (s184 _ _) rfl rfl ?_; rotate_right; conv => whnf) | (refine CallX.pure (s182 [_, _] (by simp)) ⟨SV.le_lit (by rfl) (by rfl), trivial⟩ rfl ?_; conv => whnf) | (refine br_intro ?_ ?_ <;> intro hb <;> (try simp only [brs] at hb) <;> conv => whnf) | omega | (refine And.intro ?_ ?_; ((try dsimp only); first | omega | (refine szA rfl ?_; omega) | (refine szB rfl ?_; omega) | (unfold inI64; omega) | exact rfl | (simp only [lns] at *; omega) | decide | (unfold inI64; decide)); conv => whnf) | decide | assumption)
 refine .ret _ ?_
 conv => whnf
 refine ⟨[], ⟨?_, rfl⟩, trivial⟩
 conv => lhs; whnf
 rfl
theorem s163 (l : List Ned) (hk : ndOk l) : FSpec Tryz.prog 12 [.d (neds l)] [] (fun x r => x = .d (.int .i64 (ndsE l)) ∧ r = []) := by
 refine spec_of hT (C := []) Tryz.func12 rfl Tryz.call12 rfl rfl rfl ?_
 conv => whnf
 refine br_intro (fun h0 => ?_) (fun h0 => ?_)
 · simp at h0
   conv => whnf
   refine .ret _ ?_
   conv => whnf
   refine ⟨[], ⟨?_, rfl⟩, trivial⟩
   conv => lhs; whnf
   unfold ndsE; rw [if_pos (by omega)]
 simp at h0
 conv => whnf
 refine LoopX.rule hT (C := []) (ι := Nat) (fun i => i ≤ l.length ∧ ∀ j, j < i → ndE l j = 0) (fun i => mkSt [(0, .d (neds l)), (8, .d (neds l)), (9, .d (.int .i64 l.length)), (10, .d (.int .i64 i))] []) (fun i => l.length - i) 0 ⟨by omega, by omega⟩ (by (refine Entails.mk' [] rfl rfl ?_ ?_ <;> repeat' (first | exact True.intro | exact lr | exact rr | exact SV.le_int (by omega) | exact SV.le_any _ | refine And.intro ?_ ?_)); done) ?_
 rintro i ⟨p1, p2⟩
 have hx : (i : Int) < l.length → ndK (l.getD (i : Int).toNat nd0) := fun hi => hk.2 _ (getD_mem (by omega))
 have e1 : (i : Int).toNat = i := Int.toNat_natCast i
 have hbad : ∀ e : Int, i < l.length → e ≠ 0 → ndE l i = e → ndsE l = e := fun e h h1 h2 => by
  unfold ndsE; rw [if_neg (by omega)]
  exact firstAt_eq h p2 h1 h2
 conv => whnf
 repeat' (first | (refine CallX.exact (s108 _ (hx (by omega))) rfl rfl ?_; rotate_right; conv => whnf) | (refine CallX.exact (s119 _ _ _) rfl rfl ?_; rotate_right; conv => whnf) | (refine br_intro ?_ ?_ <;> intro hb <;> (try simp only [brs] at hb) <;> conv => whnf) | (refine RegX.rule (id := 8) hT rfl [] oVShG12_8 (by decide +kernel) ?_; conv => whnf) | omega | (refine And.intro ?_ ?_; ((try dsimp only); first | omega | (refine szA rfl ?_; omega) | (refine szB rfl ?_; omega) | (unfold inI64; omega) | exact rfl | (simp only [lns] at *; omega) | decide | (unfold inI64; decide)); conv => whnf) | decide | assumption)
 all_goals first
  | (refine ⟨i + 1, ⟨by omega, first_step p2 (by clear p2 hbad hk hx; simp only [e1, toNat_pred] at *; unfold ndE strLe; grind)⟩, by omega, (by (refine Entails.mk' [] rfl rfl ?_ ?_ <;> repeat' (first | exact True.intro | exact lr | exact rr | exact SV.le_int (by omega) | exact SV.le_any _ | refine And.intro ?_ ?_)); done)⟩)
  | (refine .ret _ ?_
     conv => whnf
     refine ⟨[], ⟨?_, rfl⟩, trivial⟩
     conv => lhs; whnf
     congr 2
     first
      | exact (hbad _ (by omega) (by decide) (by clear p2 hbad hk hx; simp only [e1, toNat_pred] at *; unfold ndE strLe; grind)).symm
      | (have : i = l.length := by omega
         subst this
         unfold ndsE; rw [if_neg (by omega), firstAt_zero p2]))
theorem s164 (l : List Roa) (hk : rdOk l) : FSpec Tryz.prog 13 [.d (roas l)] [] (fun x r => x = .d (.int .i64 (rdsE l)) ∧ r = []) := by
 refine spec_of hT (C := []) Tryz.func13 rfl Tryz.call13 rfl rfl rfl ?_
 conv => whnf
 refine br_intro (fun h0 => ?_) (fun h0 => ?_)
 · simp at h0
   conv => whnf
   refine .ret _ ?_
   conv => whnf
   refine ⟨[], ⟨?_, rfl⟩, trivial⟩
   conv => lhs; whnf
   unfold rdsE; rw [if_pos (by omega)]
 simp at h0
 conv => whnf
 refine LoopX.rule hT (C := []) (ι := Nat) (fun i => i ≤ l.length ∧ ∀ j, j < i → rdE l j = 0) (fun i => mkSt [(0, .d (roas l)), (8, .d (roas l)), (9, .d (.int .i64 l.length)), (10, .d (.int .i64 i))] []) (fun i => l.length - i) 0 ⟨by omega, by omega⟩ (by (refine Entails.mk' [] rfl rfl ?_ ?_ <;> repeat' (first | exact True.intro | exact lr | exact rr | exact SV.le_int (by omega) | exact SV.le_any _ | refine And.intro ?_ ?_)); done) ?_
 rintro i ⟨p1, p2⟩
 have hx : (i : Int) < l.length → rdK (l.getD (i : Int).toNat rd0) := fun hi => hk.2 _ (getD_mem (by omega))
 have e1 : (i : Int).toNat = i := Int.toNat_natCast i
 have hbad : ∀ e : Int, i < l.length → e ≠ 0 → rdE l i = e → rdsE l = e := fun e h h1 h2 => by
  unfold rdsE; rw [if_neg (by omega)]
  exact firstAt_eq h p2 h1 h2
 conv => whnf
 repeat' (first | (refine CallX.exact (s108 _ (hx (by omega)).1) rfl rfl ?_; rotate_right; conv => whnf) | (refine CallX.exact (s108 _ (hx (by omega)).2) rfl rfl ?_; rotate_right; conv => whnf) | (refine CallX.exact (s204 _ _ _ _) rfl rfl ?_; rotate_right; conv => whnf) | (refine CallX.exact (s119 _ _ _) rfl rfl ?_; rotate_right; conv => whnf) | (refine br_intro ?_ ?_ <;> intro hb <;> (try simp only [brs] at hb) <;> conv => whnf) | (refine RegX.rule (id := 10) hT rfl [] oVShG13_10 (by decide +kernel) ?_; conv => whnf) | omega | (refine And.intro ?_ ?_; ((try dsimp only); first | omega | (refine szA rfl ?_; omega) | (refine szB rfl ?_; omega) | (unfold inI64; omega) | exact rfl | (simp only [lns] at *; omega) | decide | (unfold inI64; decide)); conv => whnf) | decide | assumption)
 all_goals first
  | (refine ⟨i + 1, ⟨by omega, first_step p2 (by clear p2 hbad hk hx; simp only [e1, toNat_pred] at *; unfold rdE ; grind)⟩, by omega, (by (refine Entails.mk' [] rfl rfl ?_ ?_ <;> repeat' (first | exact True.intro | exact lr | exact rr | exact SV.le_int (by omega) | exact SV.le_any _ | refine And.intro ?_ ?_)); done)⟩)
  | (refine .ret _ ?_
     conv => whnf
     refine ⟨[], ⟨?_, rfl⟩, trivial⟩
     conv => lhs; whnf
     congr 2
     first
      | exact (hbad _ (by omega) (by decide) (by clear p2 hbad hk hx; simp only [e1, toNat_pred] at *; unfold rdE ; grind)).symm
      | (have : i = l.length := by omega
         subst this
         unfold rdsE; rw [if_neg (by omega), firstAt_zero p2]))
theorem s113 (l : List Ned) (m : List Roa) (hl : ndOk l) (hm : rdOk m) : FSpec Tryz.prog 58 [.d (neds l), .d (roas m)] [] (fun x r => x = .d (.int .i64 (firstE [ndsE l, rdsE m])) ∧ r = []) := by
 refine spec_of hT (C := []) Tryz.func58 rfl Tryz.call58 rfl rfl rfl ?_
 conv => whnf
 repeat' (first | (refine CallX.exact (s163 l hl) rfl rfl ?_; rotate_right; conv => whnf) | (refine CallX.exact (s164 m hm) rfl rfl ?_; rotate_right; conv => whnf) | (refine CallX.pure (s105 [_, _] (by simp)) ⟨SV.le_lit (by rfl) (by rfl), trivial⟩ rfl ?_; conv => whnf) | (refine br_intro ?_ ?_ <;> intro hb <;> (try simp only [brs] at hb) <;> conv => whnf) | omega | (refine And.intro ?_ ?_; ((try dsimp only); first | omega | (refine szA rfl ?_; omega) | (refine szB rfl ?_; omega) | (unfold inI64; omega) | exact rfl | (simp only [lns] at *; omega) | decide | (unfold inI64; decide)); conv => whnf) | decide | assumption)
 refine .ret _ ?_
 conv => whnf
 refine ⟨[], ⟨?_, rfl⟩, trivial⟩
 conv => lhs; whnf
def tN : List Ned := [⟨[97], 1⟩, ⟨[98], -1⟩]
def tR : List Roa := [⟨[97], [98], 4, 0⟩]
theorem s113t : FSpec Tryz.prog 58 [.d (neds tN), .d (roas tR)] [] (fun x r => x = .d (.int .i64 0) ∧ r = []) := by
 have h := s113 tN tR ⟨by simp [tN], by intro x hx; simp [tN] at hx; rcases hx with rfl | rfl <;> simp [ndK]⟩ ⟨by simp [tR], by intro x hx; simp [tR] at hx; subst hx; simp [rdK]⟩
 rwa [show firstE [ndsE tN, rdsE tR] = 0 by decide] at h
end Go.Proofs.YteehenjdddlnnaaGreatDoor
