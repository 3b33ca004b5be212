/- ChargesHold is proved: for every input the law returns true, and its argument reads afterwards as it read before. Conditions: those of the given row alone. -/
import Derived.Test.YtcjfniddeibbhaaGreatDoorChConTri
import Derived.Test.YtcjfniddeibbhaaGreatDoorChConOne
import Derived.Shelf.GgSortFunc.InsertionK
import Derived.Shelf.SlSortCmp.NoneTotal
import Derived.Shelf.SlicesG.Cmp
import Derived.Test.YtcjfniddeibbhaaGreatDoorProg
import Derived.Test.YtcjfniddeibbhaaGreatDoorChConTwo
import Derived.Shelf.Spec.SlicesGrow
import Derived.Test.YtcjfniddeibbhaaGreatDoorChEngTwo
set_option linter.unusedVariables false
set_option linter.unusedSimpArgs false
set_option maxRecDepth 20000
namespace Go.Proofs.YtcjfniddeibbhaaGreatDoor
open Go Go.Eng
structure Cgx where
 hir : List UInt8
 veh : List UInt8
 ix : Int
 cents : Int
deriving DecidableEq
def cgF : Cgx → List DV := fun c => [.str c.hir, .str c.veh, .int .i64 c.ix, .int .i64 c.cents]
def cg0 : Cgx := ⟨[], [], 0, 0⟩
abbrev cgxs (l : List Cgx) : DV := seqD 4 cgF cg0 l
structure CgC where
 X : List Cgx
 tm : Nat → Int
 ar : Nat → List UInt8
 C : Int
def CgC.day (c : CgC) (k : Nat) : Int := (c.tm k).tdiv 1440
def CgC.x (c : CgC) (k : Nat) : Cgx := c.X.getD k cg0
def CgC.same (c : CgC) (o k : Nat) : Prop := (c.x o).hir = (c.x k).hir ∧ c.day o = c.day k ∧ c.ar o = c.ar k
def CgC.lex (c : CgC) (o k : Nat) : Prop := c.tm o < c.tm k ∨ c.tm o = c.tm k ∧ o < k
instance (c : CgC) (o k : Nat) : Decidable (c.same o k) := by unfold CgC.same; infer_instance
instance (c : CgC) (o k : Nat) : Decidable (c.lex o k) := by unfold CgC.lex; infer_instance
def CgC.bef (c : CgC) (k : Nat) : Nat → Int
 | 0 => 0
 | m + 1 => c.bef k m + (if c.same m k ∧ c.lex m k then (c.x m).cents else 0)
def CgC.cap (c : CgC) (k : Nat) : Int := if (c.x k).hir = [] then (c.x k).cents else max 0 (min (c.x k).cents (c.C - c.bef k c.X.length))
def CgC.capX (c : CgC) (k : Nat) : Cgx := { c.x k with cents := c.cap k }
def CgC.out (c : CgC) : List Cgx := (List.range c.X.length).map c.capX
structure CgC.Ok (c : CgC) : Prop where
 C0 : 0 ≤ c.C
 C1 : c.C ≤ 2^40
 len : c.X.length ≤ 1000
 cents : ∀ k, 0 ≤ (c.x k).cents ∧ (c.x k).cents ≤ 2^40
theorem CgC.bef_bd {c : CgC} (h : c.Ok) (k : Nat) : ∀ m, 0 ≤ c.bef k m ∧ c.bef k m ≤ 2^40 * m := by
 intro m
 induction m with
 | zero => exact ⟨Int.le_refl _, Int.le_refl _⟩
 | succ m ih =>
   rw [CgC.bef]
   have := h.cents m
   split <;> (push_cast; omega)
theorem CgC.cap_bd {c : CgC} (h : c.Ok) (k : Nat) : 0 ≤ c.cap k ∧ c.cap k ≤ 2^40 := by
 have := h.cents k
 have := h.C0
 have := c.bef_bd h k c.X.length
 unfold CgC.cap
 split <;> omega
theorem CgC.bef_sum (c : CgC) (k : Nat) : ∀ m, c.bef k m = ((List.range m).map fun o => if c.same o k ∧ c.lex o k then (c.x o).cents else 0).sum := by
 intro m
 induction m with
 | zero => rfl
 | succ m ih => rw [CgC.bef, List.range_succ, List.map_append, List.sum_append, ih]; simp
structure CgC.Ord (c : CgC) (S : List Nat) : Prop where
 perm : S.Perm (List.range c.X.length)
 pw : S.Pairwise c.lex
theorem CgC.lex_irr (c : CgC) {o k : Nat} (h : c.lex o k) : ¬ c.lex k o := by unfold CgC.lex at *; omega
theorem perm_sum {S T : List Nat} (h : S.Perm T) (f : Nat → Int) : (S.map f).sum = (T.map f).sum := by
 induction h with
 | nil => rfl
 | cons x _ ih => simp [ih]
 | swap x y l => simp; omega
 | trans _ _ h1 h2 => rw [h1, h2]
theorem take_lex {c : CgC} : ∀ {S : List Nat} {j k : Nat}, S.Pairwise c.lex → S[j]? = some k → ∀ f : Nat → Int, ((S.take j).map f).sum = (S.map fun o => if c.lex o k then f o else 0).sum
 | [], j, k, _, h, _ => by simp at h
 | x :: S, 0, k, hp, h, f => by
   simp only [List.getElem?_cons_zero, Option.some.injEq] at h
   subst h
   rw [List.pairwise_cons] at hp
   have h0 : ∀ o ∈ x :: S, ¬ c.lex o x := by
    intro o ho
    rcases List.mem_cons.1 ho with rfl | q
    · unfold CgC.lex; omega
    · exact c.lex_irr (hp.1 o q)
   have : ((x :: S).map fun o => if c.lex o x then f o else 0) = (x :: S).map fun _ => 0 := List.map_congr_left fun o ho => if_neg (h0 o ho)
   rw [this]
   have hz : ∀ L : List Nat, (L.map fun _ => (0 : Int)).sum = 0 := fun L => by induction L with
    | nil => rfl
    | cons _ _ ih => rw [List.map_cons, List.sum_cons, ih]; rfl
   rw [hz]; rfl
 | x :: S, j + 1, k, hp, h, f => by
   rw [List.pairwise_cons] at hp
   have hk : S[j]? = some k := by simpa using h
   have hx : c.lex x k := hp.1 k (List.mem_of_getElem? hk)
   have ih := take_lex hp.2 hk f
   simp only [List.take_succ_cons, List.map_cons, List.sum_cons, ih, if_pos hx]
def CgC.paid (c : CgC) (S : List Nat) (a b : List UInt8) (d : Int) : Int := (S.map fun o => if (c.x o).hir = a ∧ c.day o = d ∧ c.ar o = b then (c.x o).cents else 0).sum
theorem CgC.paid_bef {c : CgC} {S : List Nat} (hS : c.Ord S) {j k : Nat} (hj : S[j]? = some k) : c.paid (S.take j) (c.x k).hir (c.ar k) (c.day k) = c.bef k c.X.length := by
 unfold CgC.paid
 rw [take_lex hS.pw hj, perm_sum hS.perm, c.bef_sum]
 congr 1
 refine List.map_congr_left fun o _ => ?_
 by_cases h : c.lex o k
 · simp [h, CgC.same]
 · simp [h]
theorem CgC.paid_snoc (c : CgC) {S : List Nat} {j k : Nat} (hj : S[j]? = some k) (a b : List UInt8) (d : Int) : c.paid (S.take (j + 1)) a b d = c.paid (S.take j) a b d + (if (c.x k).hir = a ∧ c.day k = d ∧ c.ar k = b then (c.x k).cents else 0) := by
 unfold CgC.paid
 rw [List.take_add_one, hj]
 simp
def CgC.pm (c : CgC) (S : List Nat) (a b : List UInt8) (d : Int) : Int := if a = [] then 0 else min c.C (c.paid S a b d)
theorem CgC.pm_nil {c : CgC} (h : c.Ok) (a b : List UInt8) (d : Int) : c.pm [] a b d = 0 := by
 unfold CgC.pm CgC.paid
 have := h.C0
 split
 · rfl
 · simp; omega
theorem CgC.pm_old {c : CgC} {S : List Nat} (hS : c.Ord S) {j k : Nat} (hj : S[j]? = some k) (hk : (c.x k).hir ≠ []) : c.pm (S.take j) (c.x k).hir (c.ar k) (c.day k) = min c.C (c.bef k c.X.length) := by
 unfold CgC.pm; rw [if_neg hk, c.paid_bef hS hj]
theorem CgC.cap_pm {c : CgC} (h : c.Ok) {S : List Nat} (hS : c.Ord S) {j k : Nat} (hj : S[j]? = some k) (hk : (c.x k).hir ≠ []) : c.cap k = min (c.x k).cents (c.C - c.pm (S.take j) (c.x k).hir (c.ar k) (c.day k)) := by
 rw [c.pm_old hS hj hk]
 unfold CgC.cap
 rw [if_neg hk]
 have := h.cents k
 have := c.bef_bd h k c.X.length
 have := h.C0
 omega
theorem CgC.pm_new {c : CgC} (h : c.Ok) {S : List Nat} (hS : c.Ord S) {j k : Nat} (hj : S[j]? = some k) (hk : (c.x k).hir ≠ []) (a b : List UInt8) (d : Int) :
 c.pm (S.take (j + 1)) a b d = if a = (c.x k).hir ∧ b = c.ar k ∧ d = c.day k then c.pm (S.take j) (c.x k).hir (c.ar k) (c.day k) + c.cap k else c.pm (S.take j) a b d := by
 by_cases q : a = (c.x k).hir ∧ b = c.ar k ∧ d = c.day k
 · rw [if_pos q, c.cap_pm h hS hj hk]
   obtain ⟨rfl, rfl, rfl⟩ := q
   have e := c.pm_old hS hj hk
   rw [e]
   unfold CgC.pm
   rw [if_neg hk, c.paid_snoc hj, c.paid_bef hS hj, if_pos ⟨rfl, rfl, rfl⟩]
   have := h.cents k
   have := c.bef_bd h k c.X.length
   have := h.C0
   omega
 · rw [if_neg q]
   unfold CgC.pm
   have z : ¬ ((c.x k).hir = a ∧ c.day k = d ∧ c.ar k = b) := fun z => q ⟨z.1.symm, z.2.2.symm, z.2.1.symm⟩
   rw [c.paid_snoc hj, if_neg z, Int.add_zero]
theorem CgC.pm_skip {c : CgC} {S : List Nat} {j k : Nat} (hj : S[j]? = some k) (hk : (c.x k).hir = []) (a b : List UInt8) (d : Int) : c.pm (S.take (j + 1)) a b d = c.pm (S.take j) a b d := by
 unfold CgC.pm
 by_cases q : a = []
 · rw [if_pos q, if_pos q]
 · rw [if_neg q, if_neg q, c.paid_snoc hj, if_neg (by rintro ⟨e, _, _⟩; exact q (e ▸ hk)), Int.add_zero]
theorem CgC.pm_bd {c : CgC} (h : c.Ok) (S : List Nat) (a b : List UInt8) (d : Int) : 0 ≤ c.pm S a b d ∧ c.pm S a b d ≤ 2^40 := by
 have h0 : 0 ≤ c.paid S a b d := by
  unfold CgC.paid
  induction S with
  | nil => exact Int.le_refl _
  | cons x S ih =>
    rw [List.map_cons, List.sum_cons]
    have := h.cents x
    split <;> omega
 have := h.C0
 have := h.C1
 unfold CgC.pm
 split
 · omega
 · omega
def CgC.part (c : CgC) (P : Nat → Prop) (L : List Cgx) : Prop := L.length = c.X.length ∧ ∀ k, (P k → k < c.X.length → L.getD k cg0 = c.capX k) ∧ (¬ P k → L.getD k cg0 = c.x k)
theorem CgC.part_none (c : CgC) {P : Nat → Prop} (h : ∀ k, ¬ P k) : c.part P c.X := ⟨rfl, fun k => ⟨fun q => absurd q (h k), fun _ => rfl⟩⟩
theorem getD_setC {M : List Cgx} {a j : Nat} {v : Cgx} : (M.set a v).getD j cg0 = if a = j ∧ j < M.length then v else M.getD j cg0 := by
 rw [List.getD_eq_getElem?_getD, List.getD_eq_getElem?_getD, List.getElem?_set]
 by_cases h : a = j
 · subst h
   by_cases h2 : a < M.length
   · simp [h2]
   · simp [h2]
 · simp [h]
theorem CgC.part_set {c : CgC} {P Q : Nat → Prop} {L : List Cgx} (h : c.part P L) {k : Nat} (hk : k < c.X.length) (hQ : ∀ o, Q o ↔ P o ∨ o = k) : c.part Q (L.set k (c.capX k)) := by
 refine ⟨by rw [List.length_set]; exact h.1, fun o => ?_⟩
 rw [getD_setC, h.1]
 by_cases e : k = o
 · subst e
   rw [if_pos ⟨rfl, hk⟩]
   exact ⟨fun _ _ => rfl, fun q => absurd ((hQ k).2 (.inr rfl)) q⟩
 · rw [if_neg (fun z => e z.1)]
   have h2 := h.2 o
   have hq : Q o ↔ P o := by rw [hQ]; exact ⟨fun z => z.resolve_right (fun w => e w.symm), .inl⟩
   rw [hq]
   exact h2
theorem CgC.capX_skip {c : CgC} {k : Nat} (hk : (c.x k).hir = []) : c.capX k = c.x k := by
 unfold CgC.capX CgC.cap; rw [if_pos hk]
theorem CgC.part_skip {c : CgC} {P Q : Nat → Prop} {L : List Cgx} (h : c.part P L) {k : Nat} (hk : (c.x k).hir = []) (hP : ¬ P k) (hQ : ∀ o, Q o ↔ P o ∨ o = k) : c.part Q L := by
 refine ⟨h.1, fun o => ?_⟩
 have h2 := h.2 o
 by_cases e : o = k
 · subst e
   exact ⟨fun _ _ => by rw [c.capX_skip hk]; exact h2.2 hP, fun _ => h2.2 hP⟩
 · have hq : Q o ↔ P o := by rw [hQ]; exact ⟨fun z => z.resolve_right e, .inl⟩
   rw [hq]; exact h2
theorem CgC.part_all {c : CgC} {P : Nat → Prop} {L : List Cgx} (h : c.part P L) (hP : ∀ k, k < c.X.length → P k) : L = c.out := by
 apply List.ext_getElem
 · unfold CgC.out; rw [h.1]; simp
 intro k hk hk'
 have hk2 : k < c.X.length := by rw [← h.1]; exact hk
 have := (h.2 k).1 (hP k hk2) hk2
 have e1 : L[k] = L.getD k cg0 := by rw [List.getD_eq_getElem?_getD, List.getElem?_eq_getElem hk]; rfl
 rw [e1, this]
 simp [CgC.out]
structure DInv (T : Int) (s : HS) : Prop where
 pw : ∀ p, (s.out p).Pairwise fun a b => a.til ≤ b.frm
 ok : ∀ p, ∀ h ∈ s.out p, h.frm < h.til ∧ h.til ≤ T ∧ h.veh ≠ []
 lv : ∀ e ∈ s.live, e.veh ≠ [] ∧ ∀ h ∈ s.out e.plt, h.til ≤ e.frm
theorem DInv.mono {T U : Int} {s : HS} (h : DInv T s) (q : T ≤ U) : DInv U s :=
 ⟨h.pw, fun p x hx => by have := h.ok p x hx; exact ⟨this.1, by omega, this.2.2⟩, h.lv⟩
theorem DInv.drop {T : Int} {s : HS} (h : DInv T s) (p : List UInt8) : DInv T (hdrop s p T) := by
 cases hf : findP s.live p with
 | none =>
   have : hdrop s p T = s := by unfold hdrop; rw [hf]
   rw [this]; exact h
 | some e =>
   obtain ⟨e1, e2⟩ := findP_some hf
   have hl := hdrop_live s p T
   have ho : ∀ q, (hdrop s p T).out q = if q = p ∧ e.frm < T then s.out q ++ [⟨e.veh, e.frm, T⟩] else s.out q := by intro q; unfold hdrop; rw [hf]
   have he := h.lv e e1
   refine ⟨fun q => ?_, fun q x hx => ?_, fun x hx => ?_⟩
   · rw [ho]
     split
     · rename_i c
       rw [List.pairwise_append]
       refine ⟨h.pw q, List.pairwise_singleton _ _, fun a ha b hb => ?_⟩
       rw [List.mem_singleton] at hb; subst hb
       exact he.2 a (by rw [e2, ← c.1]; exact ha)
     · exact h.pw q
   · rw [ho] at hx
     split at hx
     · rename_i c
       rcases List.mem_append.1 hx with r | r
       · exact h.ok q x r
       · rw [List.mem_singleton] at r; subst r
         exact ⟨c.2, Int.le_refl _, he.1⟩
     · exact h.ok q x hx
   · rw [hl, List.mem_filter] at hx
     have hne : x.plt ≠ p := by simpa using hx.2
     refine ⟨(h.lv x hx.1).1, fun y hy => ?_⟩
     rw [ho, if_neg (by intro c; exact hne c.1)] at hy
     exact (h.lv x hx.1).2 y hy
theorem DInv.step {T : Int} {s : HS} (h : DInv T s) {x : Plt} (hx : x.frm = T) (hv : x.veh ≠ []) : DInv T (hstep s x) := by
 have h1 : DInv T (hmid s x) := by
  unfold hmid
  split
  · exact h
  · rw [hx]; exact h.drop _
 have h2 := h1.drop x.plt
 unfold hstep
 rw [hx]
 refine ⟨h2.pw, h2.ok, fun e he => ?_⟩
 rcases List.mem_append.1 he with q | q
 · exact h2.lv e q
 · rw [List.mem_singleton] at q; subst q
   exact ⟨hv, fun y hy => by rw [hx]; exact (h2.ok _ y hy).2.1⟩
theorem hall_d (l : List Plt) : srtP l → (∀ e ∈ l, e.veh ≠ []) → ∀ T, (∀ e ∈ l, e.frm ≤ T) → DInv T (hall l) := by
 refine snoc_ind (P := fun l => srtP l → (∀ e ∈ l, e.veh ≠ []) → ∀ T, (∀ e ∈ l, e.frm ≤ T) → DInv T (hall l)) ?_ ?_ l
 · intro _ _ T _
   exact ⟨fun p => List.Pairwise.nil, fun p h hh => (by cases hh), fun e he => (by cases he)⟩
 · intro l x ih hs hv T hT
   unfold srtP at hs
   rw [List.pairwise_append] at hs
   have h1 := ih hs.1 (fun e he => hv e (by simp [he])) x.frm (fun e he => hs.2.2 e he x (by simp))
   have h2 := h1.step rfl (hv x (by simp))
   have e : hall (l ++ [x]) = hstep (hall l) x := by unfold hall; rw [List.foldl_append]; rfl
   rw [e]
   exact h2.mono (hT x (by simp))
theorem hdrops_d {T : Int} : ∀ (m : List Plt) (s : HS), DInv T s → DInv T (m.foldl (fun s x => hdrop s x.plt T) s)
 | [], _, h => h
 | x :: m, s, h => hdrops_d m _ (h.drop x.plt)
theorem hend_d {f : Flt} (h : fltE f = 0) : DInv 5761440 (hend f.plt) := by
 have hm := fltE_mom h
 exact hdrops_d _ _ (hall_d f.plt (fltE_srt h).1 (plt_veh h) 5761440 fun e he => by have := hm e he; omega)
def hitT (t : Int) (w : Win) : Bool := decide (w.1 ≤ t) && decide (t < w.2)
def cutG (w : Hld) (g : Leg) : List Win := if g.veh = w.veh ∧ max g.out.tm w.frm < min (lastE g) w.til then [⟨max g.out.tm w.frm, min (lastE g) w.til⟩] else []
def cutHh (w : Hld) (h : Hir) : List Win := h.legs.flatMap (cutG w)
def cutHl (w : Hld) (l : List Hir) : List Win := l.flatMap (cutHh w)
def allW (o : List Hld) (l : List Hir) : List Win := o.flatMap fun w => cutHl w l
theorem allW_hit (o : List Hld) (l : List Hir) (t : Int) : (∃ w ∈ allW o l, hitT t w = true) ↔ ∃ w ∈ o, inH t w = true ∧ ∃ h ∈ l, occ w.veh h t = true := by
 unfold allW cutHl cutHh
 constructor
 · rintro ⟨w, hw, ht⟩
   rw [List.mem_flatMap] at hw
   obtain ⟨x, hx, hw⟩ := hw
   rw [List.mem_flatMap] at hw
   obtain ⟨h, hh, hw⟩ := hw
   rw [List.mem_flatMap] at hw
   obtain ⟨g, hg, hw⟩ := hw
   unfold cutG at hw
   split at hw
   · rename_i c
     rw [List.mem_singleton] at hw
     subst hw
     unfold hitT at ht
     simp only [Bool.and_eq_true, decide_eq_true_eq] at ht
     refine ⟨x, hx, ?_, h, hh, ?_⟩
     · unfold inH; simp only [Bool.and_eq_true, decide_eq_true_eq]; omega
     · unfold occ
       rw [List.any_eq_true]
       refine ⟨g, hg, ?_⟩
       unfold onL; simp only [Bool.and_eq_true, decide_eq_true_eq]
       exact ⟨c.1, by omega, by omega⟩
   · cases hw
 · rintro ⟨x, hx, hi, h, hh, ho⟩
   unfold occ at ho
   rw [List.any_eq_true] at ho
   obtain ⟨g, hg, ho⟩ := ho
   unfold onL at ho
   unfold inH at hi
   simp only [Bool.and_eq_true, decide_eq_true_eq] at ho hi
   refine ⟨⟨max g.out.tm x.frm, min (lastE g) x.til⟩, ?_, ?_⟩
   · refine List.mem_flatMap.2 ⟨x, hx, List.mem_flatMap.2 ⟨h, hh, List.mem_flatMap.2 ⟨g, hg, ?_⟩⟩⟩
     unfold cutG
     rw [if_pos ⟨ho.1, by omega⟩]
     exact List.mem_singleton.2 rfl
   · unfold hitT; simp only [Bool.and_eq_true, decide_eq_true_eq]; omega
theorem look_in {o : List Hld} (hp : o.Pairwise fun a b => a.til ≤ b.frm) (hk : ∀ h ∈ o, h.frm < h.til) {w : Hld} (hw : w ∈ o) {t : Int} (hi : inH t w = true) : lookV o t = w.veh := by
 induction o with
 | nil => cases hw
 | cons x o ih =>
   rw [List.pairwise_cons] at hp
   unfold lookV findH
   rw [List.find?_cons]
   cases hx : inH t x with
   | true =>
     rcases List.mem_cons.1 hw with rfl | q
     · rfl
     · have := hp.1 w q
       have := hk w (by simp [q])
       unfold inH at hx hi
       simp only [Bool.and_eq_true, decide_eq_true_eq] at hx hi
       omega
   | false =>
     rcases List.mem_cons.1 hw with rfl | q
     · rw [hi] at hx; cases hx
     · exact ih hp.2 (fun h hh => hk h (by simp [hh])) q
theorem hirIx_pos (l : List Hir) (v : List UInt8) (t : Int) : 0 ≤ hirIx l v t ↔ ∃ h ∈ l, occ v h t = true := by
 have hb := ixF_bd (p := fun i => occ v (l.getD i hi0) t) (n := l.length)
 have hf := ixF_first (p := fun i => occ v (l.getD i hi0) t) (n := l.length)
 unfold hirIx
 constructor
 · intro h
   exact ⟨_, getD_mem (by omega), hb.2.2 h⟩
 · rintro ⟨h, hh, ho⟩
   obtain ⟨j, hj, rfl⟩ := mem_getD (d := hi0) hh
   rcases Int.lt_or_le (ixF (fun i => occ v (l.getD i hi0) t) l.length) 0 with q | q
   · have := hf j hj (.inl (by omega))
     rw [ho] at this; cases this
   · exact q
theorem allW_own {f : Flt} {l : List Hir} (h : fltE f = 0) (p : List UInt8) (t : Int) : (∃ w ∈ allW ((hend f.plt).out p) l, hitT t w = true) ↔ 0 ≤ ownK ((hend f.plt).out p) l t := by
 have hd := hend_d h
 have hp := hd.pw p
 have hk := hd.ok p
 generalize (hend f.plt).out p = o at hp hk
 rw [allW_hit]
 unfold ownK
 constructor
 · rintro ⟨w, hw, hi, hh⟩
   have hl := look_in hp (fun h hh => (hk h hh).1) hw hi
   rw [hl, if_neg (hk w hw).2.2, hirIx_pos]
   exact hh
 · intro q
   by_cases c : lookV o t = []
   · rw [if_pos c] at q; omega
   · rw [if_neg c, hirIx_pos] at q
     unfold lookV findH at c
     cases hf : o.find? (inH t) with
     | none => rw [hf] at c; exact absurd rfl c
     | some w =>
       have h1 := List.find?_some hf
       have h2 := List.mem_of_find?_eq_some hf
       exact ⟨w, h2, h1, by rw [← look_in hp (fun h hh => (hk h hh).1) h2 h1]; exact q⟩
structure Mrg (S : List Win) (n : Nat) (out : List Win) : Prop where
 hit : ∀ t, (∃ w ∈ out, hitT t w = true) ↔ ∃ w ∈ S.take n, hitT t w = true
 pw : out.Pairwise fun a b => a.2 < b.1
 ok : ∀ w ∈ out, w.1 < w.2
 le : ∀ w ∈ out, ∀ x ∈ S.drop n, w.1 ≤ x.1
 len : out.length ≤ n
 bd : ∀ w ∈ out, 0 ≤ w.1 ∧ w.2 ≤ 5761440
theorem Mrg.nil (S : List Win) : Mrg S 0 [] := ⟨fun t => by simp, List.Pairwise.nil, by simp, by simp, by simp, by simp⟩
def cntW (t : Int) (W : List Win) : Nat := W.countP (hitT t)
theorem cntW_one {W : List Win} (hp : W.Pairwise fun a b => a.2 < b.1) (hk : ∀ w ∈ W, w.1 < w.2) (t : Int) : cntW t W = if ∃ w ∈ W, hitT t w = true then 1 else 0 := by
 unfold cntW
 induction W with
 | nil => simp
 | cons x W ih =>
   rw [List.pairwise_cons] at hp
   have ih := ih hp.2 (fun w hw => hk w (by simp [hw]))
   rw [List.countP_cons]
   cases hx : hitT t x with
   | true =>
     have h0 : ¬ ∃ w, w ∈ W ∧ hitT t w = true := by
      rintro ⟨w, hw, q⟩
      have h1 := hp.1 w hw
      have h2 := hk w (by simp [hw])
      unfold hitT at hx q
      simp only [Bool.and_eq_true, decide_eq_true_eq] at hx q
      omega
     rw [ih, if_neg h0, if_pos (⟨x, List.mem_cons_self, hx⟩ : ∃ w, w ∈ x :: W ∧ hitT t w = true)]
     rfl
   | false =>
     have h0 : (∃ w, w ∈ x :: W ∧ hitT t w = true) ↔ ∃ w, w ∈ W ∧ hitT t w = true := by
      constructor
      · rintro ⟨w, hw, q⟩
        rcases List.mem_cons.1 hw with e | e
        · rw [e, hx] at q; cases q
        · exact ⟨w, e, q⟩
      · rintro ⟨w, hw, q⟩
        exact ⟨w, List.mem_cons_of_mem _ hw, q⟩
     rw [ih]
     simp only [h0]
     rfl
structure IsM (o : List Hld) (h : List Hir) (W : List Win) : Prop where
 hit : ∀ t, (∃ w ∈ W, hitT t w = true) ↔ ∃ w ∈ allW o h, hitT t w = true
 pw : W.Pairwise fun a b => a.2 < b.1
 ok : ∀ w ∈ W, w.1 < w.2
 bd : ∀ w ∈ W, 0 ≤ w.1 ∧ w.2 ≤ 5761440
 len : W.length ≤ 2^31
end Go.Proofs.YtcjfniddeibbhaaGreatDoor
namespace Go.Eng
open Go Go.Proofs Go.Sort Go.RowKit
end Go.Eng
namespace Go.Proofs
open Go.Shelf
end Go.Proofs
set_option maxRecDepth 20000
namespace Go.Proofs.YtcjfniddeibbhaaGreatDoor
open Go Go.Eng
open Go.Sort Go.RowKit Go.Lib in
open Go.Sort Go.RowKit Go.Lib in
open Go.Sort Go.RowKit Go.Lib in
open Go.Sort Go.RowKit Go.Lib in
def fitK (O : List UInt8 → List Hld) (h : List Hir) (l : List Pas) (g : List UInt8) : Nat → Int → Int
 | 0, _ => 0
 | i + 1, c => fitK O h l g i c + (if (l.getD i pa0).gate = g ∧ 0 ≤ ownK (O (l.getD i pa0).plate) h ((l.getD i pa0).tm - c) then 1 else 0)
structure MI (k : Nat) (B : Int) (F : Int → Int) (M : List Int) : Prop where
 len : M.length = 2 * k + 2
 sum : ∀ c, -(k : Int) ≤ c → c ≤ k → (M.take (c + k + 1).toNat).sum = F c
 bd : ∀ j, -B ≤ M.getD j 0 ∧ M.getD j 0 ≤ B
theorem MI.zero (k : Nat) : MI k 0 (fun _ => 0) (List.replicate (2 * k + 2) 0) := by
 refine ⟨List.length_replicate, fun c _ _ => ?_, fun j => ?_⟩
 · rw [List.take_replicate]; simp
 · have : (List.replicate (2 * k + 2) (0 : Int)).getD j 0 = 0 := by
    rw [List.getD_eq_getElem?_getD, List.getElem?_replicate]; split <;> rfl
   rw [this]; omega
theorem MI.mono {k : Nat} {B C : Int} {F G : Int → Int} {M : List Int} (h : MI k B F M) (hb : B ≤ C) (hF : ∀ c, -(k : Int) ≤ c → c ≤ k → F c = G c) : MI k C G M :=
 ⟨h.len, fun c c1 c2 => by rw [h.sum c c1 c2, hF c c1 c2], fun j => by have := h.bd j; omega⟩
theorem cntW_own {f : Flt} {h : List Hir} (hf : fltE f = 0) {p : List UInt8} {W : List Win} (hW : IsM ((hend f.plt).out p) h W) (t : Int) : (cntW t W : Int) = if 0 ≤ ownK ((hend f.plt).out p) h t then 1 else 0 := by
 have h1 := allW_own (l := h) hf p t
 rw [cntW_one hW.pw hW.ok]
 simp only [hW.hit t, h1]
 split <;> rfl
theorem MI.done {f : Flt} {h : List Hir} (hf : fltE f = 0) {k : Nat} {B : Int} {l : List Pas} {g : List UInt8} {i : Nat} {M : List Int} {W : List Win} {j : Nat} (hg : (l.getD i pa0).gate = g) (hW : IsM ((hend f.plt).out (l.getD i pa0).plate) h W) (hj : j = W.length)
 (q : MI k B (fun c => fitK (hend f.plt).out h l g i c + (cntW ((l.getD i pa0).tm - c) (W.take j) : Int)) M) : MI k B (fitK (hend f.plt).out h l g (i + 1)) M := by
 refine q.mono (Int.le_refl _) fun c _ _ => ?_
 subst hj
 rw [List.take_length, cntW_own hf hW, fitK]
 simp only [hg, true_and]
theorem MI.pass {O : List UInt8 → List Hld} {h : List Hir} {k : Nat} {B : Int} {l : List Pas} {g : List UInt8} {i : Nat} {M : List Int} (hg : (l.getD i pa0).gate ≠ g) (q : MI k B (fitK O h l g i) M) : MI k B (fitK O h l g (i + 1)) M := by
 refine q.mono (Int.le_refl _) fun c _ _ => ?_
 rw [fitK, if_neg (fun z => hg z.1)]; omega
theorem le_zer {n : Int} {m : Nat} (h : n.toNat = m) : Res.le (.buf 3 1 n.toNat fun _ => [cstD (.int .i64 0)]) (seqB 3 1 iF 0 (List.replicate m 0)) := by
 subst h
 exact Res.le_zeros
def cgx (f : Flt) (h : List Hir) (g : List Gate) (l : List Pas) (i : Nat) : Cgx := ⟨ownR f.plt h (l.getD i pa0).plate (trueT g (l.getD i pa0)), wearV f.plt (l.getD i pa0).plate (trueT g (l.getD i pa0)), i, (l.getD i pa0).cents⟩
def cgL (f : Flt) (h : List Hir) (g : List Gate) (D : Int) (l : List Pas) (n : Nat) : List Cgx := ((List.range n).filter fun i => !dblB D l i).map (cgx f h g l)
theorem cgL_succ (f : Flt) (h : List Hir) (g : List Gate) (D : Int) (l : List Pas) (n : Nat) : cgL f h g D l (n + 1) = cgL f h g D l n ++ (if dblB D l n = true then [] else [cgx f h g l n]) := by
 unfold cgL
 rw [List.range_succ, List.filter_append, List.map_append]
 congr 1
 cases q : dblB D l n <;> simp [q]
theorem cgL_len (f : Flt) (h : List Hir) (g : List Gate) (D : Int) (l : List Pas) (n : Nat) : (cgL f h g D l n).length ≤ n := by
 unfold cgL; rw [List.length_map]; exact Nat.le_trans (List.length_filter_le _ _) (by simp)
theorem cgL_get {f : Flt} {h : List Hir} {g : List Gate} {D : Int} {l : List Pas} {n k : Nat} (hk : k < (cgL f h g D l n).length) : ∃ i, i < n ∧ (cgL f h g D l n).getD k cg0 = cgx f h g l i := by
 have : (cgL f h g D l n).getD k cg0 ∈ cgL f h g D l n := getD_mem hk
 generalize (cgL f h g D l n).getD k cg0 = x at this
 unfold cgL at this
 rw [List.mem_map] at this
 obtain ⟨i, hi, e⟩ := this
 rw [List.mem_filter, List.mem_range] at hi
 exact ⟨i, hi.1, e.symm⟩
def cgC (f : Flt) (h : List Hir) (g : List Gate) (D C : Int) (l : List Pas) : CgC :=
 ⟨cgL f h g D l l.length, fun k => trueT g (l.getD ((cgL f h g D l l.length).getD k cg0).ix.toNat pa0), fun k => (gateP g (l.getD ((cgL f h g D l l.length).getD k cg0).ix.toNat pa0)).area, C⟩
def cgE (f : Flt) (h : List Hir) (g : List Gate) (D C F : Int) (l : List Pas) : Int := firstE [fltE f, hirsE h, tollE D C F, chkE g l]
theorem cgE_eq (f : Flt) (h : List Hir) (g : List Gate) (D C F : Int) (l : List Pas) : firstE [offE f h, tollE D C F, chkE g l] = cgE f h g D C F l := by
 unfold cgE offE
 simp only [firstE]
 grind
theorem cgE_zero {f : Flt} {h : List Hir} {g : List Gate} {D C F : Int} {l : List Pas} (q : cgE f h g D C F l = 0) : fltE f = 0 ∧ hirsE h = 0 ∧ chkE g l = 0 ∧ -1 ≤ C ∧ C ≤ 1000000 := by
 unfold cgE at q
 simp only [firstE] at q
 have hT : tollE D C F = 0 → -1 ≤ C ∧ C ≤ 1000000 := fun z => by unfold tollE at z; grind
 grind
def cgR2 (f : Flt) (h : List Hir) (g : List Gate) (D C : Int) (l : List Pas) : List Cgx := if C = -1 then cgL f h g D l l.length else (cgC f h g D C l).out
theorem form_cents {l : List Pas} (h : formE l = 0) : ∀ p ∈ l, 0 ≤ p.cents ∧ p.cents ≤ 1000000 := by
 unfold formE at h
 split at h
 · cases h
 intro p hp
 obtain ⟨j, hj, rfl⟩ := mem_getD (d := pa0) hp
 have := firstAt_all h j hj
 unfold pasE at this
 grind
theorem chk_form {g : List Gate} {l : List Pas} (h : chkE g l = 0) : formE l = 0 := by
 unfold chkE at h
 split at h
 · exact absurd h (by assumption)
 · split at h
   · exact absurd h (by assumption)
   · rename_i q; simpa using q
theorem cgL_ix {f : Flt} {h : List Hir} {g : List Gate} {D : Int} {l : List Pas} {n k : Nat} (hk : k < (cgL f h g D l n).length) : 0 ≤ ((cgL f h g D l n).getD k cg0).ix ∧ ((cgL f h g D l n).getD k cg0).ix < n ∧ ((cgL f h g D l n).getD k cg0).cents = (l.getD ((cgL f h g D l n).getD k cg0).ix.toNat pa0).cents := by
 obtain ⟨i, hi, e⟩ := cgL_get hk
 rw [e]
 refine ⟨?_, ?_, ?_⟩
 · show (0 : Int) ≤ (i : Int); omega
 · show (i : Int) < n; omega
 · show _ = (l.getD (i : Int).toNat pa0).cents
   rw [Int.toNat_natCast]; rfl
theorem cgC_ok {f : Flt} {h : List Hir} {g : List Gate} {D C F : Int} {l : List Pas} (E : cgE f h g D C F l = 0) (hC : C ≠ -1) : (cgC f h g D C l).Ok := by
 obtain ⟨E1, E2, E3, c1, c2⟩ := cgE_zero E
 have hl := (chk_zero E3).2.1
 have hc := form_cents (chk_form E3)
 refine ⟨?_, ?_, ?_, fun k => ?_⟩
 · show 0 ≤ C; omega
 · show C ≤ 2^40; omega
 · show (cgL f h g D l l.length).length ≤ 1000
   have := cgL_len f h g D l l.length; omega
 · show 0 ≤ ((cgL f h g D l l.length).getD k cg0).cents ∧ ((cgL f h g D l l.length).getD k cg0).cents ≤ 2^40
   rcases Nat.lt_or_ge k (cgL f h g D l l.length).length with q | q
   · obtain ⟨a, b, e⟩ := cgL_ix q
     rw [e]
     have := hc (l.getD ((cgL f h g D l l.length).getD k cg0).ix.toNat pa0) (getD_mem (by omega))
     omega
   · rw [List.getD_eq_getElem?_getD, List.getElem?_eq_none q]
     show 0 ≤ (0 : Int) ∧ (0 : Int) ≤ 2^40
     omega
def oTCgB128_1 : List (Nat × List Nat) := [(0, []), (1, [0]), (2, [0, 1]), (3, [0, 1, 2]), (4, [0, 1]), (5, [0, 1]), (6, [0, 1]), (7, [0]), (8, [0]), (9, []), (10, [])]
def oTCgB130_1 : List (Nat × List Nat) := [(0, []), (1, [0]), (3, [0, 1]), (4, [0, 1, 3]), (2, [3, 4]), (5, []), (6, []), (7, [])]
def oTCgB249_4 : List (Nat × List Nat) := [(0, []), (1, [0]), (2, []), (3, []), (4, []), (5, [4]), (6, [4, 5]), (7, [4]), (8, [4]), (9, [4, 5, 6, 7, 8]), (10, [4, 5, 6, 7, 8, 9]), (11, [4, 5, 6, 7, 8, 9]), (12, [4, 5, 6, 7, 8]), (13, [4, 5, 6, 7, 8]), (14, []), (15, []), (16, [])]
def oTCgB249_6 : List (Nat × List Nat) := [(0, []), (1, [0]), (2, [0, 1]), (3, [0, 1, 2]), (4, [0, 1, 2]), (5, [0, 1, 2, 3, 4]), (6, [0, 1, 2, 3, 4, 5]), (7, [0, 1, 2, 3, 4, 5]), (8, [0, 1, 2, 3, 4]), (9, [0, 1, 2, 3, 4]), (10, [0, 1, 2, 3, 4, 5, 6, 7, 8, 9]), (11, [0, 1, 2, 3, 4, 5, 6, 7, 8, 9, 10]), (12, [0, 1, 2, 3, 4, 5, 6, 7, 8, 9]), (13, [0, 1, 2, 3, 4, 5, 6, 7, 8, 9]), (14, [2, 3, 4]), (15, [2, 3, 4]), (16, []), (17, [])]
abbrev cgB (X : List Cgx) : Res := seqB 103 4 cgF cg0 X
def cgR (G : List Gate) (P : List Pas) (X : List Cgx) : List (Nat × Res) := [(1000021, .cells 118 [.fn 128 [.ptr 1000007 0, .ptr 1000009 0, .ptr 1000014 0]]), (1000007, .cells 75 [.d (gates G)]), (1000009, .cells 77 [.d (pass P)]), (1000014, .cells 97 [.buf 1000015]), (1000015, cgB X)]
def atK (G : List Gate) (P : List Pas) (X : List Cgx) (k : Int) : Int := trueT G (P.getD (X.getD k.toNat cg0).ix.toNat pa0)
theorem c128 (G : List Gate) (P : List Pas) (X : List Cgx) (hG : G.length ≤ 2^40 ∧ ∀ g ∈ G, -2^40 ≤ g.clock ∧ g.clock ≤ 2^40) (hP : ∀ p ∈ P, (-2^40 ≤ p.tm ∧ p.tm ≤ 2^40) ∧ 0 ≤ gateIx G p.gate) (k : Int) (hk : 0 ≤ k ∧ k < X.length) (hx : 0 ≤ (X.getD k.toNat cg0).ix ∧ (X.getD k.toNat cg0).ix < P.length) (hl : P.length ≤ 2^40) (hl2 : X.length ≤ 2^40) :
 FSpec Tryz.prog 128 [.d (.int .i64 k), .ptr 1000007 0, .ptr 1000009 0, .ptr 1000014 0] [(1000007, .cells 75 [.d (gates G)]), (1000009, .cells 77 [.d (pass P)]), (1000014, .cells 97 [.buf 1000015]), (1000015, cgB X)]
  (fun y r => y = .d (.int .i64 (atK G P X k)) ∧ r = [(1000007, .cells 75 [.d (gates G)]), (1000009, .cells 77 [.d (pass P)]), (1000014, .cells 97 [.buf 1000015]), (1000015, cgB X)]) := by
 have h1 := hP (P.getD (X.getD k.toNat cg0).ix.toNat pa0) (getD_mem (by omega))
 refine spec_of hT (C := []) Tryz.func128 rfl Tryz.call128 rfl rfl rfl ?_
 conv => whnf
 repeat' (first | (refine CallX.exact (s155 G hG.1 (P.getD (X.getD k.toNat cg0).ix.toNat pa0) h1.1 hG.2 h1.2) rfl rfl ?_; rotate_right; conv => whnf) | (refine br_intro ?_ ?_ <;> intro hb <;> (try simp only [brs] at hb) <;> conv => whnf) | (refine RegX.rule (id := 1) hT rfl [] oTCgB128_1 (by decide +kernel) ?_; conv => whnf) | omega | (refine And.intro ?_ ?_; ((try dsimp only); first | omega | (refine szA rfl ?_; omega) | (refine szB rfl ?_; omega) | (unfold inI64; omega) | exact rfl | (simp only [lns] at *; omega) | decide | (unfold inI64; decide)); conv => whnf) | decide | assumption)
 refine .ret _ ?_
 conv => whnf
 exact ⟨[(1000007, .cells 75 [.d (gates G)]), (1000009, .cells 77 [.d (pass P)]), (1000014, .cells 97 [.buf 1000015]), (1000015, cgB X)], ⟨rfl, rfl⟩, rr, rr, rr, rr, trivial⟩
theorem c130 (G : List Gate) (P : List Pas) (X : List Cgx) (hG : G.length ≤ 2^40 ∧ ∀ g ∈ G, -2^40 ≤ g.clock ∧ g.clock ≤ 2^40) (hP : ∀ p ∈ P, (-2^40 ≤ p.tm ∧ p.tm ≤ 2^40) ∧ 0 ≤ gateIx G p.gate) (hx : ∀ k, k < X.length → 0 ≤ (X.getD k cg0).ix ∧ (X.getD k cg0).ix < P.length) (hl : P.length ≤ 2^40) (hl2 : X.length ≤ 2^40)
 (p q : Int) (hp : 0 ≤ p ∧ p < X.length) (hq : 0 ≤ q ∧ q < X.length) :
 FSpec Tryz.prog 130 [.d (.int .i64 p), .d (.int .i64 q), .ptr 1000021 0] (cgR G P X) (fun y r => y = .d (.int .i64 (cmpI (atK G P X p) (atK G P X q))) ∧ r = cgR G P X) := by
 have h1 := hx p.toNat (by omega)
 have h2 := hx q.toNat (by omega)
 refine spec_of hT (C := []) Tryz.func130 rfl Tryz.call130 rfl rfl rfl ?_
 conv => whnf
 repeat' (first | (refine CallX.of (c128 G P X hG hP p hp h1 hl hl2) [(1000007, 1000007), (1000009, 1000009), (1000014, 1000014), (1000015, 1000015)] rfl ⟨lr, lr, lr, lr, trivial⟩ ⟨rr, rr, rr, rr, trivial⟩ rfl rfl ?_; rintro x rout ⟨rfl, rfl⟩; refine ⟨rfl, ?_⟩; conv => whnf) | (refine CallX.of (c128 G P X hG hP q hq h2 hl hl2) [(1000007, 1000007), (1000009, 1000009), (1000014, 1000014), (1000015, 1000015)] rfl ⟨lr, lr, lr, lr, trivial⟩ ⟨rr, rr, rr, rr, trivial⟩ rfl rfl ?_; rintro x rout ⟨rfl, rfl⟩; refine ⟨rfl, ?_⟩; conv => whnf) | (refine CallX.exact (s183 _ _) rfl rfl ?_; rotate_right; conv => whnf) | (refine br_intro ?_ ?_ <;> intro hb <;> (try simp only [brs] at hb) <;> conv => whnf) | (refine RegX.rule (id := 1) hT rfl [] oTCgB130_1 (by decide +kernel) ?_; conv => whnf) | omega | (refine And.intro ?_ ?_; ((try dsimp only); first | omega | (refine szA rfl ?_; omega) | (refine szB rfl ?_; omega) | (unfold inI64; omega) | exact rfl | (simp only [lns] at *; omega) | decide | (unfold inI64; decide)); conv => whnf) | decide | assumption)
 refine .ret _ ?_
 conv => whnf
 exact ⟨cgR G P X, ⟨rfl, rfl⟩, rr, rr, rr, rr, rr, trivial⟩
theorem swap_midI {A B : List Int} {x y : Int} {D b : List Int} {j : Nat} (hb : (y :: A).reverse ++ [x] ++ B ++ D = b) (hj : j = A.length + 1) :
 b.getD j 0 = x ∧ b.getD (j - 1) 0 = y ∧ (b.set j y).set (j - 1) x = A.reverse ++ [x] ++ (y :: B) ++ D := by
 subst hj
 refine ⟨?_, ?_, ?_⟩
 · rw [← hb, show (y :: A).reverse ++ [x] ++ B ++ D = (y :: A).reverse ++ x :: (B ++ D) by simp]
   exact getD_mid _ _ _ _ (by simp)
 · rw [← hb, show (y :: A).reverse ++ [x] ++ B ++ D = A.reverse ++ y :: ([x] ++ B ++ D) by simp]
   exact getD_mid _ _ _ _ (by simp)
 · rw [← hb]
   have := swap_lemma A.reverse (B ++ D) x y
   simp only [List.length_reverse] at this
   simp only [List.reverse_cons, List.append_assoc, List.singleton_append, List.cons_append, List.nil_append, Nat.add_sub_cancel] at this ⊢
   exact this
theorem c249 (G : List Gate) (P : List Pas) (X : List Cgx) (cmp : Int → Int → Int) (l : List Int) (hl : l.length ≤ 2^40)
 (hcmp : ∀ p q, p ∈ l → q ∈ l → FSpec Tryz.prog 130 [.d (.int .i64 p), .d (.int .i64 q), .ptr 1000021 0] (cgR G P X) (fun y r => y = .d (.int .i64 (cmp p q)) ∧ r = cgR G P X)) :
 FSpec Tryz.prog 249 [.buf 1000001, .d (.int .i64 0), .d (.int .i64 l.length), .fn 130 [.ptr 1000021 0]] ((1000001, seqB 3 1 iF 0 l) :: cgR G P X)
  (fun y r => y = .tup [] ∧ r = ((1000001, seqB 3 1 iF 0 (isort cmp l)) :: cgR G P X)) := by
 refine spec_of hT (C := []) Tryz.func249 rfl Tryz.call249 rfl rfl rfl ?_
 conv => whnf
 repeat' (first | (refine br_intro ?_ ?_ <;> intro hb <;> (try simp only [brs] at hb) <;> conv => whnf) | (refine RegX.rule (id := 4) hT rfl [] oTCgB249_4 (by decide +kernel) ?_; conv => whnf) | (refine RegX.rule (id := 6) hT rfl [] oTCgB249_6 (by decide +kernel) ?_; conv => whnf) | omega | (refine And.intro ?_ ?_; ((try dsimp only); first | omega | (refine szA rfl ?_; omega) | (refine szB rfl ?_; omega) | (unfold inI64; omega) | exact rfl | (simp only [lns] at *; omega) | decide | (unfold inI64; decide)); conv => whnf) | decide | assumption)
 refine LoopX.rule hT (C := []) (ι := Nat × List Int) (fun (i, c) => 1 ≤ i ∧ (i ≤ l.length ∨ i = 1) ∧ c = (isortR cmp (l.take i)).reverse ++ l.drop i)
  (fun (i, c) => mkSt [(0, .buf 1000001), (1, .d (.int .i64 0)), (2, .d (.int .i64 l.length)), (3, .fn 130 [.ptr 1000021 0]), (8, .d (.int .i64 i))] ((1000001, seqB 3 1 iF 0 c) :: cgR G P X))
  (fun (i, _) => l.length - i) (1, l) ⟨by simp, by simp, by cases l with | nil => rfl | cons x l => simp [isortR, insR]⟩ (by (refine Entails.mk' [(1000001, 1000001), (1000021, 1000021), (1000007, 1000007), (1000009, 1000009), (1000014, 1000014), (1000015, 1000015)] rfl rfl ?_ ?_ <;> repeat' (first | exact True.intro | exact lr | exact rr | exact SV.le_int (by omega) | exact SV.le_any _ | refine And.intro ?_ ?_)); done) ?_
 rintro ⟨i, c⟩ ⟨p1, p2, p3⟩
 conv => whnf
 repeat' (first | (refine br_intro ?_ ?_ <;> intro hb <;> (try simp only [brs] at hb) <;> conv => whnf) | (refine RegX.rule (id := 4) hT rfl [] oTCgB249_4 (by decide +kernel) ?_; conv => whnf) | (refine RegX.rule (id := 6) hT rfl [] oTCgB249_6 (by decide +kernel) ?_; conv => whnf) | omega | (refine And.intro ?_ ?_; ((try dsimp only); first | omega | (refine szA rfl ?_; omega) | (refine szB rfl ?_; omega) | (unfold inI64; omega) | exact rfl | (simp only [lns] at *; omega) | decide | (unfold inI64; decide)); conv => whnf) | decide | assumption)
 · have hi : i < l.length := by omega
   have hx : l[i] ∈ l := List.getElem_mem hi
   have hmem : ∀ y ∈ isortR cmp (l.take i), y ∈ l := fun y hy => List.mem_of_mem_take ((isortR_mem cmp _).1 hy)
   have hlr : (isortR cmp (l.take i)).length = i := by rw [isortR_length, List.length_take]; omega
   have hc : c = (isortR cmp (l.take i)).reverse ++ [l[i]] ++ [] ++ l.drop (i + 1) := by rw [p3, List.drop_eq_getElem_cons hi]; simp
   refine LoopX.rule hT (C := []) (ι := List Int × List Int × List Int) (fun (A, B, b) => insR cmp l[i] (isortR cmp (l.take i)) = B.reverse ++ insR cmp l[i] A ∧ A.length + B.length = i ∧ (∀ y ∈ A, y ∈ l) ∧ A.reverse ++ [l[i]] ++ B ++ l.drop (i + 1) = b)
    (fun (A, B, b) => mkSt [(0, .buf 1000001), (1, .d (.int .i64 0)), (2, .d (.int .i64 l.length)), (3, .fn 130 [.ptr 1000021 0]), (8, .d (.int .i64 i)), (9, .d (.int .i64 A.length))] ((1000001, seqB 3 1 iF 0 b) :: cgR G P X))
    (fun (A, _, _) => A.length) (isortR cmp (l.take i), [], c) ⟨by simp, by simpa using hlr, hmem, hc.symm⟩ ?_ ?_
   · exact Entails.mk' [(1000001, 1000001), (1000021, 1000021), (1000007, 1000007), (1000009, 1000009), (1000014, 1000014), (1000015, 1000015)] rfl rfl ⟨lr, lr, lr, lr, lr, SV.le_int (by omega), trivial⟩ ⟨rr, rr, rr, rr, rr, rr, trivial⟩
   rintro ⟨A, B, b⟩ ⟨q1, q2, q3, hbd⟩
   have hlen : b.length = l.length := by rw [← hbd]; simp; omega
   have hfin : A = [] ∨ (∃ y A', A = y :: A' ∧ 0 ≤ cmp l[i] y) → isortR cmp (l.take (i + 1)) = B.reverse ++ l[i] :: A ∧ b = (isortR cmp (l.take (i + 1))).reverse ++ l.drop (i + 1) := fun h => by
    have e : isortR cmp (l.take (i + 1)) = B.reverse ++ l[i] :: A := by
     rw [take_snoc hi, isortR_snoc, q1]
     rcases h with rfl | ⟨y, A', rfl, h⟩
     · rfl
     · rw [insR, if_neg (by omega)]
    exact ⟨e, by rw [e, ← hbd]; simp⟩
   conv => whnf
   repeat' (first | (refine br_intro ?_ ?_ <;> intro hb <;> (try simp only [brs] at hb) <;> conv => whnf) | (refine RegX.rule (id := 4) hT rfl [] oTCgB249_4 (by decide +kernel) ?_; conv => whnf) | (refine RegX.rule (id := 6) hT rfl [] oTCgB249_6 (by decide +kernel) ?_; conv => whnf) | omega | (refine And.intro ?_ ?_; ((try dsimp only); first | omega | (refine szA rfl ?_; omega) | (refine szB rfl ?_; omega) | (unfold inI64; omega) | exact rfl | (simp only [lns] at *; omega) | decide | (unfold inI64; decide)); conv => whnf) | decide | assumption)
   · cases A with
     | nil => simp at hb
     | cons y A =>
     obtain ⟨g1, g2, g3⟩ := swap_midI (j := (((y :: A).length : Int)).toNat) hbd (by simp)
     have ej : ((((y :: A).length : Int)) - 1).toNat = (((y :: A).length : Int)).toNat - 1 := by omega
     refine CallX.of (hcmp l[i] y hx (q3 y (by simp))) [(1000021, 1000021), (1000007, 1000007), (1000009, 1000009), (1000014, 1000014), (1000015, 1000015)] rfl ⟨by rw [← g1]; exact lr, by rw [← g2, ← ej]; exact lr, lr, trivial⟩ ⟨rr, rr, rr, rr, rr, trivial⟩ rfl rfl ?_
     rintro x rout ⟨rfl, rfl⟩
     refine ⟨rfl, ?_⟩
     conv => whnf
     repeat' (first | (refine br_intro ?_ ?_ <;> intro hb <;> (try simp only [brs] at hb) <;> conv => whnf) | (refine RegX.rule (id := 4) hT rfl [] oTCgB249_4 (by decide +kernel) ?_; conv => whnf) | (refine RegX.rule (id := 6) hT rfl [] oTCgB249_6 (by decide +kernel) ?_; conv => whnf) | omega | (refine And.intro ?_ ?_; ((try dsimp only); first | omega | (refine szA rfl ?_; omega) | (refine szB rfl ?_; omega) | (unfold inI64; omega) | exact rfl | (simp only [lns] at *; omega) | decide | (unfold inI64; decide)); conv => whnf) | decide | assumption)
     · refine ⟨(A, y :: B, _), ⟨by rw [q1]; simp [insR, hb], by simp only [List.length_cons] at q2 ⊢; omega, fun z hz => q3 z (by simp [hz]), ?_⟩, by show A.length < (y :: A).length; simp, Entails.mk' [(1000001, 1000001), (1000021, 1000021), (1000007, 1000007), (1000009, 1000009), (1000014, 1000014), (1000015, 1000015)] rfl rfl ⟨lr, lr, lr, lr, lr, SV.le_int (by simp only [List.length_cons]; omega), trivial⟩ ⟨Res.le_put2 (x := b.getD ((((y :: A).length : Int)) - 1).toNat 0) (y := b.getD (((y :: A).length : Int)).toNat 0) (fun _ => rfl) (fun _ => rfl), rr, rr, rr, rr, rr, trivial⟩⟩
       rw [← g3, ej, g1, g2]
     · obtain ⟨_, h2⟩ := hfin (.inr ⟨y, A, rfl, hb⟩)
       exact ⟨(i + 1, b), ⟨by omega, by omega, h2⟩, by show l.length - (i + 1) < l.length - i; omega, (by (refine Entails.mk' [(1000001, 1000001), (1000021, 1000021), (1000007, 1000007), (1000009, 1000009), (1000014, 1000014), (1000015, 1000015)] rfl rfl ?_ ?_ <;> repeat' (first | exact True.intro | exact lr | exact rr | exact SV.le_int (by omega) | exact SV.le_any _ | refine And.intro ?_ ?_)); done)⟩
   · have hA : A = [] := List.length_eq_zero_iff.1 (by omega)
     obtain ⟨_, h2⟩ := hfin (.inl hA)
     exact ⟨(i + 1, b), ⟨by omega, by omega, h2⟩, by show l.length - (i + 1) < l.length - i; omega, (by (refine Entails.mk' [(1000001, 1000001), (1000021, 1000021), (1000007, 1000007), (1000009, 1000009), (1000014, 1000014), (1000015, 1000015)] rfl rfl ?_ ?_ <;> repeat' (first | exact True.intro | exact lr | exact rr | exact SV.le_int (by omega) | exact SV.le_any _ | refine And.intro ?_ ?_)); done)⟩
 · refine .ret _ ?_
   conv => whnf
   have e1 : c = isort cmp l := by
    rw [p3, List.take_of_length_le (by omega), List.drop_eq_nil_iff.2 (by omega), List.append_nil]; rfl
   subst e1
   exact ⟨(1000001, seqB 3 1 iF 0 (isort cmp l)) :: cgR G P X, ⟨rfl, rfl⟩, rr, rr, rr, rr, rr, rr, trivial⟩
theorem c184 (G : List Gate) (P : List Pas) (X : List Cgx) (cmp : Int → Int → Int) (l : List Int) (hl : l.length < 20)
 (hcmp : ∀ p q, p ∈ l → q ∈ l → FSpec Tryz.prog 130 [.d (.int .i64 p), .d (.int .i64 q), .ptr 1000021 0] (cgR G P X) (fun y r => y = .d (.int .i64 (cmp p q)) ∧ r = cgR G P X)) :
 FSpec Tryz.prog 184 [.buf 1000001, .d (.int .i64 l.length), .fn 130 [.ptr 1000021 0]] ((1000001, seqB 3 1 iF 0 l) :: cgR G P X)
  (fun y r => y = .tup [] ∧ r = ((1000001, seqB 3 1 iF 0 (isort cmp l)) :: cgR G P X)) := by
 refine spec_of hT (C := []) Tryz.func184 rfl Tryz.call184 rfl rfl rfl ?_
 conv => whnf
 refine LoopX.rule hT (C := []) (ι := Unit) (fun _ => True) (fun _ => mkSt [(0, .buf 1000001), (1, .d (.int .i64 l.length)), (2, .fn 130 [.ptr 1000021 0]), (6, .d (.int .i64 20)), (7, .d (.int .i64 0)), (8, .d (.int .i64 20))] ((1000001, seqB 3 1 iF 0 l) :: cgR G P X)) (fun _ => 0) () trivial (by (refine Entails.mk' [(1000001, 1000001), (1000021, 1000021), (1000007, 1000007), (1000009, 1000009), (1000014, 1000014), (1000015, 1000015)] rfl rfl ?_ ?_ <;> repeat' (first | exact True.intro | exact lr | exact rr | exact SV.le_int (by omega) | exact SV.le_any _ | refine And.intro ?_ ?_)); done) ?_
 rintro ⟨⟩ -
 conv => whnf
 repeat' (first | (refine br_intro ?_ ?_ <;> intro hb <;> (try simp only [brs] at hb) <;> conv => whnf) | omega | (refine And.intro ?_ ?_; ((try dsimp only); first | omega | (refine szA rfl ?_; omega) | (refine szB rfl ?_; omega) | (unfold inI64; omega) | exact rfl | (simp only [lns] at *; omega) | decide | (unfold inI64; decide)); conv => whnf) | decide | assumption)
 refine CallX.of (c249 G P X cmp l (by omega) hcmp) [(1000001, 1000001), (1000021, 1000021), (1000007, 1000007), (1000009, 1000009), (1000014, 1000014), (1000015, 1000015)] rfl ⟨lr, lr, lr, lr, trivial⟩ ⟨rr, rr, rr, rr, rr, rr, trivial⟩ rfl rfl ?_
 rintro x rout ⟨rfl, rfl⟩
 refine ⟨rfl, ?_⟩
 conv => whnf
 refine LoopX.rule hT (C := []) (ι := Unit) (fun _ => True) (fun _ => mkSt [(0, .buf 1000001), (1, .d (.int .i64 l.length)), (2, .fn 130 [.ptr 1000021 0]), (6, .d (.int .i64 20))] ((1000001, seqB 3 1 iF 0 (isort cmp l)) :: cgR G P X)) (fun _ => 0) () trivial (by (refine Entails.mk' [(1000001, 1000001), (1000021, 1000021), (1000007, 1000007), (1000009, 1000009), (1000014, 1000014), (1000015, 1000015)] rfl rfl ?_ ?_ <;> repeat' (first | exact True.intro | exact lr | exact rr | exact SV.le_int (by omega) | exact SV.le_any _ | refine And.intro ?_ ?_)); done) ?_
 rintro ⟨⟩ -
 conv => whnf
 repeat' (first | (refine br_intro ?_ ?_ <;> intro hb <;> (try simp only [brs] at hb) <;> conv => whnf) | omega | (refine And.intro ?_ ?_; ((try dsimp only); first | omega | (refine szA rfl ?_; omega) | (refine szB rfl ?_; omega) | (unfold inI64; omega) | exact rfl | (simp only [lns] at *; omega) | decide | (unfold inI64; decide)); conv => whnf) | decide | assumption)
 refine .ret _ ?_
 conv => whnf
 exact ⟨(1000001, seqB 3 1 iF 0 (isort cmp l)) :: cgR G P X, ⟨rfl, rfl⟩, rr, rr, rr, rr, rr, rr, trivial⟩
theorem c129 (G : List Gate) (P : List Pas) (X : List Cgx) (cmp : Int → Int → Int) (l : List Int) (hl : l.length < 20)
 (hcmp : ∀ p q, p ∈ l → q ∈ l → FSpec Tryz.prog 130 [.d (.int .i64 p), .d (.int .i64 q), .ptr 1000021 0] (cgR G P X) (fun y r => y = .d (.int .i64 (cmp p q)) ∧ r = cgR G P X)) :
 FSpec Tryz.prog 129 [.buf 1000001, .fn 130 [.ptr 1000021 0]] ((1000001, seqB 3 1 iF 0 l) :: cgR G P X)
  (fun y r => y = .tup [] ∧ r = ((1000001, seqB 3 1 iF 0 (isort cmp l)) :: cgR G P X)) := by
 refine spec_of hT (C := []) Tryz.func129 rfl Tryz.call129 rfl rfl rfl ?_
 conv => whnf
 repeat' (first | (refine br_intro ?_ ?_ <;> intro hb <;> (try simp only [brs] at hb) <;> conv => whnf) | omega | (refine And.intro ?_ ?_; ((try dsimp only); first | omega | (refine szA rfl ?_; omega) | (refine szB rfl ?_; omega) | (unfold inI64; omega) | exact rfl | (simp only [lns] at *; omega) | decide | (unfold inI64; decide)); conv => whnf) | decide | assumption)
 refine CallX.of (c184 G P X cmp l hl hcmp) [(1000001, 1000001), (1000021, 1000021), (1000007, 1000007), (1000009, 1000009), (1000014, 1000014), (1000015, 1000015)] rfl ⟨lr, lr, lr, trivial⟩ ⟨rr, rr, rr, rr, rr, rr, trivial⟩ rfl rfl ?_
 rintro x rout ⟨rfl, rfl⟩
 refine ⟨rfl, ?_⟩
 conv => whnf
 refine .ret _ ?_
 conv => whnf
 exact ⟨(1000001, seqB 3 1 iF 0 (isort cmp l)) :: cgR G P X, ⟨rfl, rfl⟩, rr, rr, rr, rr, rr, rr, trivial⟩
def oTCgC53_1 : List (Nat × List Nat) := [(0, []), (1, [0]), (3, [0, 1]), (5, [0, 1, 3]), (6, [0, 1, 3, 5]), (2, [3, 5, 6]), (4, [5, 6]), (7, []), (8, []), (9, []), (10, [])]
def oTCgC53_10 : List (Nat × List Nat) := [(0, []), (1, [0]), (2, [0, 1]), (3, [0]), (4, [0]), (5, [0]), (6, [0, 1, 2, 3, 4, 5]), (7, [0, 1, 2, 3, 4, 5, 6]), (8, [0, 1, 2, 3, 4, 5, 6, 7]), (9, [0, 1, 2, 3, 4, 5, 6]), (10, [0, 1, 2, 3, 4, 5, 6]), (11, [0, 1, 2, 3, 4, 5]), (12, []), (13, []), (14, []), (15, [14]), (16, [15]), (17, [])]
def oTCgC53_11 : List (Nat × List Nat) := [(0, []), (1, [0]), (2, [0, 1]), (4, [0, 1, 2]), (5, [0, 1, 2, 4]), (6, [0, 1, 2, 4, 5]), (7, [0, 1, 2, 4, 5, 6]), (8, [0, 1, 2, 4, 5]), (9, [0, 1, 2, 4, 5]), (10, [0, 1, 2, 4, 5]), (3, [0, 4, 5, 6, 7, 8, 9, 10]), (11, [0]), (12, [0]), (13, []), (14, [])]
def oTCgC53_29 : List (Nat × List Nat) := [(0, []), (1, []), (2, []), (3, []), (4, [0, 1, 2, 3]), (5, [0, 1, 2, 3, 4]), (6, [0, 1, 2, 3, 4, 5]), (7, [0, 1, 2, 3, 4, 5, 6]), (8, [0, 1, 2, 3, 4, 5, 6]), (9, [0, 1, 2, 3, 4, 5, 6]), (10, [0, 1, 2, 3, 4, 5, 6]), (11, [0, 1, 2, 3, 4, 5]), (12, [0, 1, 2, 3, 4, 5]), (13, [0, 1, 2, 3, 4, 5]), (18, [0, 1, 2, 3, 4, 5, 6, 7, 8, 9, 10, 11, 12, 13]), (19, [0, 1, 2, 3, 4, 5, 6, 7, 8, 9, 10, 11, 12, 13, 18]), (23, [0, 1, 2, 3, 4, 5, 6, 7, 8, 9, 10, 11, 12, 13, 18, 19]), (14, [0, 1, 2, 3, 4, 18, 19, 23]), (15, [0, 1, 2, 3, 18, 19, 23]), (16, [0, 1, 2, 3, 18, 19, 23]), (17, [0, 1, 2, 3, 18, 19, 23]), (20, [0, 1, 2, 3, 4, 23, 15, 16, 17]), (21, [0, 1, 2, 3, 4, 23, 15, 16, 17]), (22, [23]), (24, [])]
def oTCgC53_30 : List (Nat × List Nat) := [(0, []), (1, [0]), (2, [0]), (3, [0]), (4, [0]), (5, [0, 1, 2, 3, 4]), (6, [0, 1, 2, 3, 4]), (7, [0, 1, 2, 3, 4, 5, 6]), (8, [0, 1, 2, 3, 4, 5, 6, 7]), (9, [0, 1, 2, 3, 4, 5, 6]), (10, [0, 1, 2, 3, 4]), (11, [0]), (12, []), (13, []), (14, [])]
def oTCgC53_31 : List (Nat × List Nat) := [(0, []), (1, [0]), (2, []), (3, [0, 1, 2]), (4, [0, 1, 2]), (5, [0, 1, 2]), (6, [0, 1, 2]), (7, []), (8, [2, 7]), (9, [2, 7]), (10, [])]
theorem wk_ssi {key : List DV} (h : wk [.str, .str, .int .i64] key = true) : ∃ a b d, key = [.str a, .str b, .int .i64 d] := by
 match key, h with
 | [.str a, .str b, .int k d], h =>
   have : IntKind.i64 = k := kEq_eq (by simpa [wk, wk1] using h)
   subst this
   exact ⟨a, b, d, rfl⟩
 | .str _ :: .str _ :: .int _ _ :: _ :: _, h => simp [wk] at h
def pHas (H : List UInt8 → List UInt8 → Int → Bool) : List DV → Bool
 | [.str a, .str b, .int _ d] => H a b d
 | _ => false
def pVal (V : List UInt8 → List UInt8 → Int → Int) : List DV → List DV
 | [.str a, .str b, .int _ d] => [.int .i64 (V a b d)]
 | _ => [.int .i64 0]
abbrev paidM (H : List UInt8 → List UInt8 → Int → Bool) (V : List UInt8 → List UInt8 → Int → Int) : Res := .map true false [.str, .str, .int .i64] [.int .i64 0] (pHas H) (pVal V)
theorem keyEq_ssi (a b a' b' : List UInt8) (d d' : Int) : keyEq [.str a, .str b, .int .i64 d] [.str a', .str b', .int .i64 d'] = decide (a = a' ∧ b = b' ∧ d = d') := by
 simp only [keyEq, keyEq1, Bool.and_true]
 rw [Bool.eq_iff_iff]
 simp
theorem Res.le_of_eq {a b : Res} (h : a = b) : Res.le a b := h ▸ Res.le_refl a
theorem Res.le_trans {a b c : Res} (h : Res.le a b) (k : Res.le b c) : Res.le a c := ⟨h.1.trans k.1, fun G β w d z => k.2 G β w d (h.2 G β w d z)⟩
theorem fillA_zero {n : Nat} {F : Nat → Int} : fillA 0 F n 0 = List.replicate n 0 := by
 unfold fillA
 exact List.ext_getElem (by simp) (fun i h1 h2 => by simp)
theorem fillI_mem {n : Nat} {p : Int} (h : p ∈ fillA 0 (fun k : Nat => (k : Int)) n n) : 0 ≤ p ∧ p < n := by
 unfold fillA at h
 rw [List.mem_map] at h
 obtain ⟨j, hj, rfl⟩ := h
 rw [List.mem_range] at hj
 rw [if_pos hj]
 show (0 : Int) ≤ (j : Int) ∧ (j : Int) < n
 omega
theorem ord_sort (c : CgC) (T : Int → Int) (hT : ∀ k : Nat, T k = c.tm k) : c.Ord ((isort (fun p q => cmpI (T p) (T q)) (fillA 0 (fun k : Nat => (k : Int)) c.X.length c.X.length)).map Int.toNat) := by
 have hf : fillA 0 (fun k : Nat => (k : Int)) c.X.length c.X.length = (List.range c.X.length).map fun k : Nat => (k : Int) := by
  unfold fillA
  exact List.map_congr_left fun j hj => by rw [List.mem_range] at hj; exact if_pos hj
 refine ⟨?_, ?_⟩
 · refine ((isort_perm _ _).map Int.toNat).trans ?_
   rw [hf, List.map_map]
   have : (Int.toNat ∘ fun k : Nat => (k : Int)) = id := by funext k; exact Int.toNat_natCast k
   rw [this, List.map_id]
 · rw [List.pairwise_map]
   have hp := isort_pairwise (fun p q : Int => cmpI (T p) (T q)) (fun p q : Int => c.lex p.toNat q.toNat) (fun a b d h1 h2 => by unfold CgC.lex at *; omega) (fillA 0 (fun k : Nat => (k : Int)) c.X.length c.X.length) ?_
   · exact hp
   · rw [hf, List.pairwise_map]
     refine List.Pairwise.imp ?_ (List.pairwise_lt_range)
     intro a b hab
     unfold cmpI CgC.lex
     simp only [hT, Int.toNat_natCast]
     refine ⟨fun z => ?_, fun z => ?_⟩
     · split at z
       · left; assumption
       · split at z <;> omega
     · split at z
       · omega
       · omega
theorem not_take {c : CgC} {S : List Nat} (hp : S.Pairwise c.lex) {j k : Nat} (hj : S[j]? = some k) : k ∉ S.take j := by
 intro h
 have hjl := (List.getElem?_eq_some_iff.1 hj).1
 have e : S.drop j = k :: S.drop (j + 1) := by
  rw [List.drop_eq_getElem_cons hjl]
  rw [List.getElem?_eq_getElem hjl] at hj
  cases hj; rfl
 rw [← List.take_append_drop j S, e, List.pairwise_append] at hp
 have := hp.2.2 k h k (by simp)
 unfold CgC.lex at this
 omega
set_option maxHeartbeats 8000000 in
theorem c53 (f : Flt) (hk : fltOk f) (h : List Hir) (hh : hiOk h) (hlg : ∀ x ∈ h, x.legs.length ≤ 2^40) (g : List Gate) (hg : gOk g) (D C F : Int) (l : List Pas) (hl : pOk l) (hn : l.length < 20) :
 FSpec Tryz.prog 53 [flt f, .d (hirs h), .d (gates g), .agg [.d (.int .i64 D), .d (.int .i64 C), .d (.int .i64 F)], .d (pass l)] [] (fun y r => y = (if cgE f h g D C F l ≠ 0 then .tup [.d .nilsl, .d (.int .i64 (cgE f h g D C F l))] else .tup [.d (cgxs (cgR2 f h g D C l)), .d (.int .i64 0)]) ∧ r = []) := by
 have h3 := s105 [offE f h, tollE D C F, chkE g l] (by simp)
 rw [cgE_eq] at h3
 have hhl : h.length ≤ 2^40 := hh.1
 refine spec_of hT (C := []) Tryz.func53 rfl Tryz.call53 rfl rfl rfl ?_
 conv => whnf
 repeat' (first | (refine CallX.exact (z72 f hk h hh) rfl rfl ?_; rotate_right; conv => whnf) | (refine CallX.exact (s66 D C F) rfl rfl ?_; rotate_right; conv => whnf) | (refine CallX.exact (s90 g l hg hl) rfl rfl ?_; rotate_right; conv => whnf) | (refine CallX.pure h3 ⟨SV.le_lit (by rfl) (by rfl), trivial⟩ rfl ?_; conv => whnf) | (refine br_intro ?_ ?_ <;> intro hb <;> (try simp only [brs] at hb) <;> conv => whnf) | (refine RegX.rule (id := 1) hT rfl [] oTCgC53_1 (by decide +kernel) ?_; conv => whnf) | (refine RegX.rule (id := 10) hT rfl [] oTCgC53_10 (by decide +kernel) ?_; conv => whnf) | (refine RegX.rule (id := 11) hT rfl [] oTCgC53_11 (by decide +kernel) ?_; conv => whnf) | (refine RegX.rule (id := 29) hT rfl [] oTCgC53_29 (by decide +kernel) ?_; conv => whnf) | (refine RegX.rule (id := 30) hT rfl [] oTCgC53_30 (by decide +kernel) ?_; conv => whnf) | (refine RegX.rule (id := 31) hT rfl [] oTCgC53_31 (by decide +kernel) ?_; conv => whnf) | omega | (refine And.intro ?_ ?_; ((try dsimp only); first | omega | (refine szA rfl ?_; omega) | (refine szB rfl ?_; omega) | (unfold inI64; omega) | exact rfl | (simp only [lns] at *; omega) | decide | (unfold inI64; decide)); conv => whnf) | decide | assumption)
 · refine .ret _ ?_
   conv => whnf
   refine ⟨[], ⟨?_, rfl⟩, trivial⟩
   rw [if_pos hb]
   rfl
 have E0 : cgE f h g D C F l = 0 := hb
 rw [if_neg (by omega)]
 obtain ⟨E1, E2, E3, c1, c2⟩ := cgE_zero E0
 have hon := chk_on E3
 obtain ⟨⟨n1, n2⟩, n3, n4⟩ := chk_zero E3
 obtain ⟨hs, hpl⟩ := fltE_srt E1
 obtain ⟨O, hO⟩ : ∃ O, O = (hend f.plt).out := ⟨_, rfl⟩
 have hOl : ∀ q, (O q).length ≤ 1000 := fun q => by rw [hO]; exact Nat.le_trans (hend_len _ _) hpl
 refine CallX.of (z73 f hpl hs h) [(6, 30)] rfl ⟨lr, lr, trivial⟩ trivial rfl rfl ?_
 rintro x rout ⟨rfl, rfl⟩
 refine ⟨rfl, ?_⟩
 rw [← hO]
 conv => whnf
 repeat' (first | (refine CallX.exact (s130 D C F l n3 n4) rfl rfl ?_; rotate_right; conv => whnf) | (refine br_intro ?_ ?_ <;> intro hb <;> (try simp only [brs] at hb) <;> conv => whnf) | (refine RegX.rule (id := 1) hT rfl [] oTCgC53_1 (by decide +kernel) ?_; conv => whnf) | (refine RegX.rule (id := 10) hT rfl [] oTCgC53_10 (by decide +kernel) ?_; conv => whnf) | (refine RegX.rule (id := 11) hT rfl [] oTCgC53_11 (by decide +kernel) ?_; conv => whnf) | (refine RegX.rule (id := 29) hT rfl [] oTCgC53_29 (by decide +kernel) ?_; conv => whnf) | (refine RegX.rule (id := 30) hT rfl [] oTCgC53_30 (by decide +kernel) ?_; conv => whnf) | (refine RegX.rule (id := 31) hT rfl [] oTCgC53_31 (by decide +kernel) ?_; conv => whnf) | omega | (refine And.intro ?_ ?_; ((try dsimp only); first | omega | (refine szA rfl ?_; omega) | (refine szB rfl ?_; omega) | (unfold inI64; omega) | exact rfl | (simp only [lns] at *; omega) | decide | (unfold inI64; decide)); conv => whnf) | decide | assumption)
 refine LoopX.rule hT (C := []) (ι := Nat) (fun i => i ≤ l.length) (fun i => mkSt [(7, .ptr 7 0), (8, .ptr 8 0), (9, .ptr 9 0), (13, .ptr 13 0), (14, .ptr 14 0), (45, .d (seqD 1 bF false (fillA false (dblB D l) l.length l.length))), (46, .d (.int .i64 l.length)), (47, .d (.int .i64 i))] [(7, .cells 75 [.d (gates g)]), (8, .cells 95 [.d (.int .i64 D), .d (.int .i64 C), .d (.int .i64 F)]), (9, .cells 77 [.d (pass l)]), (13, .cells 137 [.mp 30, .d (hirs h)]), (30, mF O), (14, .cells 97 [.buf 200]), (200, cgB (cgL f h g D l i))]) (fun i => l.length - i) 0 (by omega) ?_ ?_
 · refine (Entails.nilCell 14 200 103 4 0 (rowF cgF cg0 []) rfl rfl rfl (by decide) rfl).trans ?_
   exact Entails.mk' [(7, 7), (8, 8), (9, 9), (13, 13), (30, 30), (14, 14), (200, 200)] rfl rfl ⟨lr, lr, lr, lr, lr, lr, SV.le_int (by rw [fillA_length]), lr, trivial⟩ ⟨rr, rr, rr, rr, rr, rr, rr, trivial⟩
 intro i p1
 have e1 : (i : Int).toNat = i := Int.toNat_natCast i
 have hcl := cgL_len f h g D l i
 rcases Nat.lt_or_ge i l.length with hi | hi
 · have hc2 := n4 (l.getD (i : Int).toNat pa0) (getD_mem (by omega))
   have ho2 := hon i hi
   rw [← e1] at ho2
   have hfg : (fillA false (dblB D l) l.length l.length).getD (i : Int).toNat false = dblB D l i := by rw [e1]; exact fillA_get hi
   have hfl : (fillA false (dblB D l) l.length l.length).length = l.length := fillA_length
   have hbd := ownK_bd (O (l.getD (i : Int).toNat pa0).plate) h (trueT g (l.getD (i : Int).toNat pa0))
   have hw := look_wear E1 (by omega : trueT g (l.getD (i : Int).toNat pa0) < 5761440) (l.getD (i : Int).toNat pa0).plate
   have hown := own_key E1 E2 (by omega : trueT g (l.getD (i : Int).toNat pa0) < 5761440) (l.getD (i : Int).toNat pa0).plate
   rw [← hO] at hw hown
   conv => whnf
   repeat' (first | (refine CallX.exact (s155 g (by omega) (l.getD (i : Int).toNat pa0) ⟨by omega, by omega⟩ (fun x hx => by have := n2 x hx; omega) ho2.1) rfl rfl ?_; rotate_right; conv => whnf) | (refine CallX.of (z74 (fun p => !(O p).isEmpty) (fun p => vF (O p)) (O (l.getD (i : Int).toNat pa0).plate) h hhl hlg (l.getD (i : Int).toNat pa0).plate (trueT g (l.getD (i : Int).toNat pa0)) (Nat.le_trans (hOl _) (by decide)) (vF_or _)) [(1000001, 30)] rfl ⟨lr, lr, lr, trivial⟩ ⟨rr, trivial⟩ rfl rfl ?_; rintro x rout ⟨rfl, rfl⟩; refine ⟨rfl, ?_⟩; conv => whnf) | (refine CallX.of (z113 (fun p => !(O p).isEmpty) (fun p => vF (O p)) h (ownK (O (l.getD (i : Int).toNat pa0).plate) h (trueT g (l.getD (i : Int).toNat pa0))) hbd.2) [(1000001, 30)] rfl ⟨lr, lr, trivial⟩ ⟨rr, trivial⟩ rfl rfl ?_; rintro x rout ⟨rfl, rfl⟩; refine ⟨rfl, ?_⟩; conv => whnf) | (refine br_intro ?_ ?_ <;> intro hb <;> (try simp only [brs] at hb) <;> conv => whnf) | (refine RegX.rule (id := 1) hT rfl [] oTCgC53_1 (by decide +kernel) ?_; conv => whnf) | (refine RegX.rule (id := 10) hT rfl [] oTCgC53_10 (by decide +kernel) ?_; conv => whnf) | (refine RegX.rule (id := 11) hT rfl [] oTCgC53_11 (by decide +kernel) ?_; conv => whnf) | (refine RegX.rule (id := 29) hT rfl [] oTCgC53_29 (by decide +kernel) ?_; conv => whnf) | (refine RegX.rule (id := 30) hT rfl [] oTCgC53_30 (by decide +kernel) ?_; conv => whnf) | (refine RegX.rule (id := 31) hT rfl [] oTCgC53_31 (by decide +kernel) ?_; conv => whnf) | omega | (refine And.intro ?_ ?_; ((try dsimp only); first | omega | (refine szA rfl ?_; omega) | (refine szB rfl ?_; omega) | (unfold inI64; omega) | exact rfl | (simp only [lns] at *; omega) | decide | (unfold inI64; decide)); conv => whnf) | decide | assumption)
   · have hB : dblB D l i = true := by rw [← hfg]; exact hb
     refine ⟨i + 1, by omega, by omega, ?_⟩
     rw [cgL_succ, if_pos hB, List.append_nil]
     exact Entails.mk' [(7, 7), (8, 8), (9, 9), (13, 13), (30, 30), (14, 14), (200, 200)] rfl rfl ⟨lr, lr, lr, lr, lr, lr, lr, lr, trivial⟩ ⟨rr, rr, rr, rr, rr, rr, rr, trivial⟩
   · have hB : dblB D l i = false := by rw [← hfg]; exact hb
     have hkey : (if ownK (O (l.getD (i : Int).toNat pa0).plate) h (trueT g (l.getD (i : Int).toNat pa0)) < 0 then [] else (h.getD (ownK (O (l.getD (i : Int).toNat pa0).plate) h (trueT g (l.getD (i : Int).toNat pa0))).toNat hi0).key) = ownR f.plt h (l.getD (i : Int).toNat pa0).plate (trueT g (l.getD (i : Int).toNat pa0)) := by
      rcases hown with ⟨q1, q2⟩ | ⟨q1, q2, _, _⟩
      · rw [if_pos q1, q2]
      · rw [if_neg (by omega), q2]
     have hx : cgx f h g l i = ⟨if ownK (O (l.getD (i : Int).toNat pa0).plate) h (trueT g (l.getD (i : Int).toNat pa0)) < 0 then [] else (h.getD (ownK (O (l.getD (i : Int).toNat pa0).plate) h (trueT g (l.getD (i : Int).toNat pa0))).toNat hi0).key, lookV (O (l.getD (i : Int).toNat pa0).plate) (trueT g (l.getD (i : Int).toNat pa0)), i, (l.getD (i : Int).toNat pa0).cents⟩ := by
      rw [hkey, hw, e1]; rfl
     refine ⟨i + 1, by omega, by omega, ?_⟩
     have hcs : cgL f h g D l (i + 1) = cgL f h g D l i ++ [cgx f h g l i] := by rw [cgL_succ, if_neg (by rw [hB]; simp)]
     rw [hcs, hx]
     exact Entails.mk' [(7, 7), (8, 8), (9, 9), (13, 13), (30, 30), (14, 14), (200, 82)] rfl rfl ⟨lr, lr, lr, lr, lr, lr, lr, lr, trivial⟩ ⟨rr, rr, rr, rr, rr, rr, Res.le_snocF (by rfl), trivial⟩
 · have hil : i = l.length := by omega
   rw [hil]
   rw [hil] at hcl
   obtain ⟨X, hX⟩ : ∃ X, X = cgL f h g D l l.length := ⟨_, rfl⟩
   rw [← hX]
   rw [← hX] at hcl
   conv => whnf
   repeat' (first | (refine br_intro ?_ ?_ <;> intro hb <;> (try simp only [brs] at hb) <;> conv => whnf) | (refine RegX.rule (id := 1) hT rfl [] oTCgC53_1 (by decide +kernel) ?_; conv => whnf) | (refine RegX.rule (id := 10) hT rfl [] oTCgC53_10 (by decide +kernel) ?_; conv => whnf) | (refine RegX.rule (id := 11) hT rfl [] oTCgC53_11 (by decide +kernel) ?_; conv => whnf) | (refine RegX.rule (id := 29) hT rfl [] oTCgC53_29 (by decide +kernel) ?_; conv => whnf) | (refine RegX.rule (id := 30) hT rfl [] oTCgC53_30 (by decide +kernel) ?_; conv => whnf) | (refine RegX.rule (id := 31) hT rfl [] oTCgC53_31 (by decide +kernel) ?_; conv => whnf) | omega | (refine And.intro ?_ ?_; ((try dsimp only); first | omega | (refine szA rfl ?_; omega) | (refine szB rfl ?_; omega) | (unfold inI64; omega) | exact rfl | (simp only [lns] at *; omega) | decide | (unfold inI64; decide)); conv => whnf) | decide | assumption)
   all_goals try (exfalso; omega)
   · refine .freeze _ 200 103 4 _ _ rfl (.weak _ ?_)
     conv => whnf
     exact ⟨.tup [.d (cgxs X), .d (.int .i64 0)], [], SV.le_tup ⟨lr, lr, trivial⟩, ⟨by unfold cgR2; rw [if_pos hb, hX], rfl⟩, trivial⟩
   have hC : C ≠ -1 := hb
   refine LoopX.rule hT (C := []) (ι := Nat) (fun j => j ≤ X.length) (fun j => mkSt [(7, .ptr 7 0), (8, .ptr 8 0), (9, .ptr 9 0), (14, .ptr 14 0), (19, .buf 19), (92, .d (.int .i64 X.length)), (93, .d (.int .i64 j))] [(7, .cells 75 [.d (gates g)]), (8, .cells 95 [.d (.int .i64 D), .d (.int .i64 C), .d (.int .i64 F)]), (9, .cells 77 [.d (pass l)]), (14, .cells 97 [.buf 15]), (15, cgB X), (19, seqB 3 1 iF 0 (fillA 0 (fun k : Nat => (k : Int)) X.length j))]) (fun j => X.length - j) 0 (by omega) ?_ ?_
   · exact Entails.mk' [(7, 7), (8, 8), (9, 9), (14, 14), (15, 200), (19, 90)] rfl rfl ⟨lr, lr, lr, lr, lr, lr, lr, trivial⟩ ⟨rr, rr, rr, rr, rr, (by refine Res.le_trans (le_zer (m := X.length) ?_) (Res.le_of_eq (by rw [fillA_zero]; rfl)); exact Int.toNat_natCast _), trivial⟩
   intro j p2
   have e2 : (j : Int).toNat = j := Int.toNat_natCast j
   have hfl : (fillA 0 (fun k : Nat => (k : Int)) X.length j).length = X.length := fillA_length
   rcases Nat.lt_or_ge j X.length with hj | hj
   · conv => whnf
     repeat' (first | (refine br_intro ?_ ?_ <;> intro hb <;> (try simp only [brs] at hb) <;> conv => whnf) | (refine RegX.rule (id := 1) hT rfl [] oTCgC53_1 (by decide +kernel) ?_; conv => whnf) | (refine RegX.rule (id := 10) hT rfl [] oTCgC53_10 (by decide +kernel) ?_; conv => whnf) | (refine RegX.rule (id := 11) hT rfl [] oTCgC53_11 (by decide +kernel) ?_; conv => whnf) | (refine RegX.rule (id := 29) hT rfl [] oTCgC53_29 (by decide +kernel) ?_; conv => whnf) | (refine RegX.rule (id := 30) hT rfl [] oTCgC53_30 (by decide +kernel) ?_; conv => whnf) | (refine RegX.rule (id := 31) hT rfl [] oTCgC53_31 (by decide +kernel) ?_; conv => whnf) | omega | (refine And.intro ?_ ?_; ((try dsimp only); first | omega | (refine szA rfl ?_; omega) | (refine szB rfl ?_; omega) | (unfold inI64; omega) | exact rfl | (simp only [lns] at *; omega) | decide | (unfold inI64; decide)); conv => whnf) | decide | assumption)
     all_goals try (exfalso; omega)
     refine ⟨j + 1, by omega, by omega, Entails.mk' [(7, 7), (8, 8), (9, 9), (14, 14), (15, 15), (19, 19)] rfl rfl ⟨lr, lr, lr, lr, lr, lr, lr, trivial⟩ ⟨rr, rr, rr, rr, rr, ?_, trivial⟩⟩
     rw [← fillA_set' (x := (j : Int)) rfl]
     exact Res.le_putF (fun y _ => rfl)
   · have hjx : j = X.length := by omega
     rw [hjx]
     conv => whnf
     repeat' (first | (refine br_intro ?_ ?_ <;> intro hb <;> (try simp only [brs] at hb) <;> conv => whnf) | (refine RegX.rule (id := 1) hT rfl [] oTCgC53_1 (by decide +kernel) ?_; conv => whnf) | (refine RegX.rule (id := 10) hT rfl [] oTCgC53_10 (by decide +kernel) ?_; conv => whnf) | (refine RegX.rule (id := 11) hT rfl [] oTCgC53_11 (by decide +kernel) ?_; conv => whnf) | (refine RegX.rule (id := 29) hT rfl [] oTCgC53_29 (by decide +kernel) ?_; conv => whnf) | (refine RegX.rule (id := 30) hT rfl [] oTCgC53_30 (by decide +kernel) ?_; conv => whnf) | (refine RegX.rule (id := 31) hT rfl [] oTCgC53_31 (by decide +kernel) ?_; conv => whnf) | omega | (refine And.intro ?_ ?_; ((try dsimp only); first | omega | (refine szA rfl ?_; omega) | (refine szB rfl ?_; omega) | (unfold inI64; omega) | exact rfl | (simp only [lns] at *; omega) | decide | (unfold inI64; decide)); conv => whnf) | decide | assumption)
     all_goals try (exfalso; omega)
     have hXi : ∀ k, k < X.length → 0 ≤ (X.getD k cg0).ix ∧ (X.getD k cg0).ix < l.length := fun k hk => by
      rw [hX] at hk ⊢
      have := cgL_ix hk
      exact ⟨this.1, this.2.1⟩
     have hG : g.length ≤ 2^40 ∧ ∀ x ∈ g, -2^40 ≤ x.clock ∧ x.clock ≤ 2^40 := ⟨by omega, fun x hx => by have := n2 x hx; omega⟩
     have hP : ∀ p ∈ l, (-2^40 ≤ p.tm ∧ p.tm ≤ 2^40) ∧ 0 ≤ gateIx g p.gate := fun p hp => by
      obtain ⟨q, hq, rfl⟩ := mem_getD (d := pa0) hp
      have h1 := n4 _ hp
      exact ⟨by omega, (hon q hq).1⟩
     have hc129 := c129 g l X (fun p q => cmpI (atK g l X p) (atK g l X q)) (fillA 0 (fun k : Nat => (k : Int)) X.length X.length) (by rw [fillA_length]; omega) (fun p q hp hq => c130 g l X hG hP hXi (by omega) (by omega) p q (fillI_mem hp) (fillI_mem hq))
     obtain ⟨S, hS⟩ : ∃ S, S = isort (fun p q => cmpI (atK g l X p) (atK g l X q)) (fillA 0 (fun k : Nat => (k : Int)) X.length X.length) := ⟨_, rfl⟩
     rw [← hS] at hc129
     refine CallX.of hc129 [(1000001, 19), (1000021, 21), (1000007, 7), (1000009, 9), (1000014, 14), (1000015, 15)] rfl ⟨lr, lr, trivial⟩ ⟨rr, rr, rr, rr, rr, rr, trivial⟩ rfl rfl ?_
     rintro x rout ⟨rfl, rfl⟩
     refine ⟨rfl, ?_⟩
     conv => whnf
     repeat' (first | (refine br_intro ?_ ?_ <;> intro hb <;> (try simp only [brs] at hb) <;> conv => whnf) | (refine RegX.rule (id := 1) hT rfl [] oTCgC53_1 (by decide +kernel) ?_; conv => whnf) | (refine RegX.rule (id := 10) hT rfl [] oTCgC53_10 (by decide +kernel) ?_; conv => whnf) | (refine RegX.rule (id := 11) hT rfl [] oTCgC53_11 (by decide +kernel) ?_; conv => whnf) | (refine RegX.rule (id := 29) hT rfl [] oTCgC53_29 (by decide +kernel) ?_; conv => whnf) | (refine RegX.rule (id := 30) hT rfl [] oTCgC53_30 (by decide +kernel) ?_; conv => whnf) | (refine RegX.rule (id := 31) hT rfl [] oTCgC53_31 (by decide +kernel) ?_; conv => whnf) | omega | (refine And.intro ?_ ?_; ((try dsimp only); first | omega | (refine szA rfl ?_; omega) | (refine szB rfl ?_; omega) | (unfold inI64; omega) | exact rfl | (simp only [lns] at *; omega) | decide | (unfold inI64; decide)); conv => whnf) | decide | assumption)
     obtain ⟨c, hc⟩ : ∃ c, c = cgC f h g D C l := ⟨_, rfl⟩
     have hcX : c.X = X := by rw [hc, hX]; rfl
     have hct : ∀ k : Nat, atK g l X (k : Int) = c.tm k := fun k => by rw [hc]; unfold atK; rw [Int.toNat_natCast, hX]; rfl
     have hcC : c.C = C := by rw [hc]; rfl
     have hcok : c.Ok := by rw [hc]; exact cgC_ok E0 hC
     have hcO := ord_sort c (atK g l X) hct
     rw [hcX, ← hS] at hcO
     have hSl : S.length = X.length := by
      have := hcO.perm.length_eq
      rwa [List.length_map, List.length_range, hcX] at this
     have hSm : ∀ p ∈ S, 0 ≤ p ∧ p < X.length := fun p hp => by rw [hS] at hp; exact fillI_mem (by unfold isort at hp; rw [List.mem_reverse, isortR_mem] at hp; exact hp)
     refine LoopX.rule hT (C := []) (ι := Nat × List Cgx × (List UInt8 → List UInt8 → Int → Bool)) (fun (j, L, _) => j ≤ S.length ∧ c.part (fun k => k ∈ (S.map Int.toNat).take j) L)
      (fun (j, L, H) => mkSt [(7, .ptr 7 0), (8, .ptr 8 0), (9, .ptr 9 0), (14, .ptr 14 0), (21, .ptr 21 0), (22, .mp 22), (106, .buf 19), (107, .d (.int .i64 S.length)), (108, .d (.int .i64 j))] [(7, .cells 75 [.d (gates g)]), (8, .cells 95 [.d (.int .i64 D), .d (.int .i64 C), .d (.int .i64 F)]), (9, .cells 77 [.d (pass l)]), (14, .cells 97 [.buf 15]), (15, cgB L), (19, seqB 3 1 iF 0 S), (21, .cells 118 [.fn 128 [.ptr 7 0, .ptr 9 0, .ptr 14 0]]), (22, paidM H (c.pm ((S.map Int.toNat).take j)))])
      (fun (j, _) => S.length - j) (0, X, fun _ _ _ => false) ⟨Nat.zero_le _, by show c.part (fun k => k ∈ []) X; rw [← hcX]; exact c.part_none (fun k z => by cases z)⟩ ?_ ?_
     · exact Entails.mk' [(7, 7), (8, 8), (9, 9), (14, 14), (15, 15), (19, 19), (21, 21), (22, 105)] rfl rfl ⟨lr, lr, lr, lr, lr, lr, lr, lr, lr, trivial⟩ ⟨rr, rr, rr, rr, rr, rr, rr, Res.le_map (fun key hkk => by obtain ⟨a, b, d, rfl⟩ := wk_ssi hkk; refine ⟨rfl, ?_⟩; show [_] = [DV.int .i64 (c.pm [] a b d)]; rw [c.pm_nil hcok]; rfl), trivial⟩
     rintro ⟨j, L, H⟩ ⟨p3, hLp⟩
     have p3 : j ≤ S.length := p3
     have hLp : c.part (fun k => k ∈ (S.map Int.toNat).take j) L := hLp
     have e3 : (j : Int).toNat = j := Int.toNat_natCast j
     have hLl : L.length = X.length := by rw [hLp.1, hcX]
     rcases Nat.lt_or_ge j S.length with hj3 | hj3
     · have hkm := hSm (S.getD (j : Int).toNat 0) (getD_mem (by omega))
       obtain ⟨kn, hkn⟩ : ∃ kn : Nat, (S.getD (j : Int).toNat 0) = kn := ⟨(S.getD (j : Int).toNat 0).toNat, by omega⟩
       have hknl : kn < c.X.length := by rw [hcX]; omega
       have hSj : (S.map Int.toNat)[j]? = some kn := by
        rw [List.getElem?_map, List.getElem?_eq_getElem hj3]
        have : S[j] = (S.getD (j : Int).toNat 0) := by rw [e3]; simp [List.getD_eq_getElem?_getD, hj3]
        rw [this, hkn]; rfl
       have hts : ∀ o, o ∈ (S.map Int.toNat).take (j + 1) ↔ o ∈ (S.map Int.toNat).take j ∨ o = kn := fun o => by rw [List.take_add_one, hSj]; simp
       have hKn : (S.getD (j : Int).toNat 0).toNat = kn := by omega
       have hLk : (L.getD (S.getD (j : Int).toNat 0).toNat cg0) = c.x kn := by rw [hKn]; exact (hLp.2 kn).2 (not_take hcO.pw hSj)
       have hxk : c.x kn = X.getD kn cg0 := by unfold CgC.x; rw [hcX]
       have hix := hXi kn (by omega)
       rw [← hxk, ← hLk] at hix
       have hpk := hP (l.getD (L.getD (S.getD (j : Int).toNat 0).toNat cg0).ix.toNat pa0) (getD_mem (by omega))
       have hgb := (ixF_bd (p := fun i => (g.getD i g0).key == (l.getD (L.getD (S.getD (j : Int).toNat 0).toNat cg0).ix.toNat pa0).gate) (n := g.length)).2.1
       have hgb2 : gateIx g (l.getD (L.getD (S.getD (j : Int).toNat 0).toNat cg0).ix.toNat pa0).gate < g.length := hgb
       have hat : atK g l L (S.getD (j : Int).toNat 0) = c.tm kn := by rw [← hct kn]; unfold atK; rw [hLk, hxk, Int.toNat_natCast]
       have hat0 : 0 ≤ atK g l L (S.getD (j : Int).toNat 0) ∧ atK g l L (S.getD (j : Int).toNat 0) ≤ 5761439 := by
        have := hon (L.getD (S.getD (j : Int).toNat 0).toNat cg0).ix.toNat (by omega)
        exact this.2
       have hct0 : 0 ≤ (L.getD (S.getD (j : Int).toNat 0).toNat cg0).cents ∧ (L.getD (S.getD (j : Int).toNat 0).toNat cg0).cents ≤ 2^40 := by rw [hLk]; exact hcok.cents kn
       have har : (g.getD (gateIx g (l.getD (L.getD (S.getD (j : Int).toNat 0).toNat cg0).ix.toNat pa0).gate).toNat g0).area = c.ar kn := by
        rw [hc]
        show _ = (gateP g _).area
        unfold gateP
        rw [if_neg (by rw [← hX, ← hxk, ← hLk]; omega), ← hX, ← hxk, ← hLk]
       have hv := c.pm_bd hcok ((S.map Int.toNat).take j) (L.getD (S.getD (j : Int).toNat 0).toNat cg0).hir (g.getD (gateIx g (l.getD (L.getD (S.getD (j : Int).toNat 0).toNat cg0).ix.toNat pa0).gate).toNat g0).area ((atK g l L (S.getD (j : Int).toNat 0)).tdiv 1440)
       have hdv : 0 ≤ (atK g l L (S.getD (j : Int).toNat 0)).tdiv 1440 ∧ (atK g l L (S.getD (j : Int).toNat 0)).tdiv 1440 ≤ 5761439 := by rw [Int.tdiv_eq_ediv_of_nonneg hat0.1]; omega
       have hday : inI64 ((atK g l L (S.getD (j : Int).toNat 0)).tdiv 1440) := by unfold inI64; omega
       have hadd : inI64 (c.pm ((S.map Int.toNat).take j) (L.getD (S.getD (j : Int).toNat 0).toNat cg0).hir (g.getD (gateIx g (l.getD (L.getD (S.getD (j : Int).toNat 0).toNat cg0).ix.toNat pa0).gate).toNat g0).area ((atK g l L (S.getD (j : Int).toNat 0)).tdiv 1440) + bif false then max (L.getD (S.getD (j : Int).toNat 0).toNat cg0).cents (C - c.pm ((S.map Int.toNat).take j) (L.getD (S.getD (j : Int).toNat 0).toNat cg0).hir (g.getD (gateIx g (l.getD (L.getD (S.getD (j : Int).toNat 0).toNat cg0).ix.toNat pa0).gate).toNat g0).area ((atK g l L (S.getD (j : Int).toNat 0)).tdiv 1440)) else min (L.getD (S.getD (j : Int).toNat 0).toNat cg0).cents (C - c.pm ((S.map Int.toNat).take j) (L.getD (S.getD (j : Int).toNat 0).toNat cg0).hir (g.getD (gateIx g (l.getD (L.getD (S.getD (j : Int).toNat 0).toNat cg0).ix.toNat pa0).gate).toNat g0).area ((atK g l L (S.getD (j : Int).toNat 0)).tdiv 1440))) := by rw [cond_false]; unfold inI64; omega
       have h128 := c128 g l L hG hP (S.getD (j : Int).toNat 0) (by omega) hix (by omega) (by omega)
       conv => whnf
       repeat' (first | (refine CallX.exact (s153 g (by omega) (l.getD (L.getD (S.getD (j : Int).toNat 0).toNat cg0).ix.toNat pa0).gate) rfl rfl ?_; rotate_right; conv => whnf) | (refine CallX.look h128 [(1000007, 7), (1000009, 9), (1000014, 14), (1000015, 15)] rfl ⟨lr, lr, lr, lr, trivial⟩ ⟨⟨_, rfl, rfl⟩, ⟨_, rfl, rfl⟩, ⟨_, rfl, rfl⟩, ⟨_, rfl, rfl⟩, trivial⟩ rfl rfl rfl ?_; conv => whnf) | (refine And.intro hday ?_; conv => whnf) | (refine And.intro hadd ?_; conv => whnf) | (simp only [Nat.beq_refl, cond_true]; conv => whnf) | (refine ⟨rfl, ?_⟩; intro clock kb b2 hKB hkb; conv => whnf) | (refine ⟨_, _, ⟨hkb, rfl⟩, ?_⟩; conv => whnf) | (refine br_intro ?_ ?_ <;> intro hb <;> (try simp only [brs] at hb) <;> conv => whnf) | (refine RegX.rule (id := 1) hT rfl [] oTCgC53_1 (by decide +kernel) ?_; conv => whnf) | (refine RegX.rule (id := 10) hT rfl [] oTCgC53_10 (by decide +kernel) ?_; conv => whnf) | (refine RegX.rule (id := 11) hT rfl [] oTCgC53_11 (by decide +kernel) ?_; conv => whnf) | (refine RegX.rule (id := 29) hT rfl [] oTCgC53_29 (by decide +kernel) ?_; conv => whnf) | (refine RegX.rule (id := 30) hT rfl [] oTCgC53_30 (by decide +kernel) ?_; conv => whnf) | (refine RegX.rule (id := 31) hT rfl [] oTCgC53_31 (by decide +kernel) ?_; conv => whnf) | omega | (refine And.intro ?_ ?_; ((try dsimp only); first | omega | (refine szA rfl ?_; omega) | (refine szB rfl ?_; omega) | (unfold inI64; omega) | exact rfl | (simp only [lns] at *; omega) | decide | (unfold inI64; decide)); conv => whnf) | decide | assumption)
       all_goals try (exfalso; omega)
       · have hk0 : (c.x kn).hir = [] := by rw [← hLk]; exact hb
         exact ⟨(j + 1, L, H), ⟨by show j + 1 ≤ S.length; omega, c.part_skip hLp hk0 (not_take hcO.pw hSj) hts⟩, by show S.length - (j + 1) < S.length - j; omega,
          Entails.mk' [(7, 7), (8, 8), (9, 9), (14, 14), (15, 15), (19, 19), (21, 21), (22, 22)] rfl rfl ⟨lr, lr, lr, lr, lr, lr, lr, lr, lr, trivial⟩ ⟨rr, rr, rr, rr, rr, rr, rr, Res.le_map (fun key hkk => by
           obtain ⟨a, b, d, rfl⟩ := wk_ssi hkk
           refine ⟨rfl, ?_⟩
           show [DV.int .i64 (c.pm ((S.map Int.toNat).take j) a b d)] = [DV.int .i64 (c.pm ((S.map Int.toNat).take (j + 1)) a b d)]
           rw [c.pm_skip hSj hk0]), trivial⟩⟩
       · have hkne : (c.x kn).hir ≠ [] := by rw [← hLk]; exact hb
         have hcap := c.cap_pm hcok hcO hSj hkne
         have hday2 : ((atK g l L (S.getD (j : Int).toNat 0)).tdiv 1440) = c.day kn := by rw [hat]; rfl
         have hPM : c.pm ((S.map Int.toNat).take j) (L.getD (S.getD (j : Int).toNat 0).toNat cg0).hir (g.getD (gateIx g (l.getD (L.getD (S.getD (j : Int).toNat 0).toNat cg0).ix.toNat pa0).gate).toNat g0).area ((atK g l L (S.getD (j : Int).toNat 0)).tdiv 1440) = c.pm ((S.map Int.toNat).take j) (c.x kn).hir (c.ar kn) (c.day kn) := by rw [har, hday2, hLk]
         have hV : (bif false then max (L.getD (S.getD (j : Int).toNat 0).toNat cg0).cents (C - c.pm ((S.map Int.toNat).take j) (L.getD (S.getD (j : Int).toNat 0).toNat cg0).hir (g.getD (gateIx g (l.getD (L.getD (S.getD (j : Int).toNat 0).toNat cg0).ix.toNat pa0).gate).toNat g0).area ((atK g l L (S.getD (j : Int).toNat 0)).tdiv 1440)) else min (L.getD (S.getD (j : Int).toNat 0).toNat cg0).cents (C - c.pm ((S.map Int.toNat).take j) (L.getD (S.getD (j : Int).toNat 0).toNat cg0).hir (g.getD (gateIx g (l.getD (L.getD (S.getD (j : Int).toNat 0).toNat cg0).ix.toNat pa0).gate).toNat g0).area ((atK g l L (S.getD (j : Int).toNat 0)).tdiv 1440))) = c.cap kn := by rw [cond_false, hcap, hPM, hLk, hcC]
         refine ⟨(j + 1, L.set kn (c.capX kn), fun a b d => keyEq [.str a, .str b, .int .i64 d] [.str (L.getD (S.getD (j : Int).toNat 0).toNat cg0).hir, .str (g.getD (gateIx g (l.getD (L.getD (S.getD (j : Int).toNat 0).toNat cg0).ix.toNat pa0).gate).toNat g0).area, .int .i64 ((atK g l L (S.getD (j : Int).toNat 0)).tdiv 1440)] || H a b d), ⟨by show j + 1 ≤ S.length; omega, c.part_set hLp hknl hts⟩, by show S.length - (j + 1) < S.length - j; omega,
          Entails.mk' [(7, 7), (8, 8), (9, 9), (14, 14), (15, 15), (19, 19), (21, 21), (22, 22)] rfl rfl ⟨lr, lr, lr, lr, lr, lr, lr, lr, lr, trivial⟩ ⟨rr, rr, rr, rr, ?_, rr, rr, ?_, trivial⟩⟩
         · have hset : L.set kn (c.capX kn) = L.set (S.getD (j : Int).toNat 0).toNat ((fun y : Cgx => (⟨y.hir, y.veh, y.ix, (bif false then max (L.getD (S.getD (j : Int).toNat 0).toNat cg0).cents (C - c.pm ((S.map Int.toNat).take j) (L.getD (S.getD (j : Int).toNat 0).toNat cg0).hir (g.getD (gateIx g (l.getD (L.getD (S.getD (j : Int).toNat 0).toNat cg0).ix.toNat pa0).gate).toNat g0).area ((atK g l L (S.getD (j : Int).toNat 0)).tdiv 1440)) else min (L.getD (S.getD (j : Int).toNat 0).toNat cg0).cents (C - c.pm ((S.map Int.toNat).take j) (L.getD (S.getD (j : Int).toNat 0).toNat cg0).hir (g.getD (gateIx g (l.getD (L.getD (S.getD (j : Int).toNat 0).toNat cg0).ix.toNat pa0).gate).toNat g0).area ((atK g l L (S.getD (j : Int).toNat 0)).tdiv 1440)))⟩ : Cgx)) (L.getD (S.getD (j : Int).toNat 0).toNat cg0)) := by
            rw [hV]
            simp only [hLk]
            rw [hKn]; rfl
           rw [hset]
           exact Res.le_upd (fun y : Cgx => (⟨y.hir, y.veh, y.ix, (bif false then max (L.getD (S.getD (j : Int).toNat 0).toNat cg0).cents (C - c.pm ((S.map Int.toNat).take j) (L.getD (S.getD (j : Int).toNat 0).toNat cg0).hir (g.getD (gateIx g (l.getD (L.getD (S.getD (j : Int).toNat 0).toNat cg0).ix.toNat pa0).gate).toNat g0).area ((atK g l L (S.getD (j : Int).toNat 0)).tdiv 1440)) else min (L.getD (S.getD (j : Int).toNat 0).toNat cg0).cents (C - c.pm ((S.map Int.toNat).take j) (L.getD (S.getD (j : Int).toNat 0).toNat cg0).hir (g.getD (gateIx g (l.getD (L.getD (S.getD (j : Int).toNat 0).toNat cg0).ix.toNat pa0).gate).toNat g0).area ((atK g l L (S.getD (j : Int).toNat 0)).tdiv 1440)))⟩ : Cgx)) (fun y => rfl)
         · refine Res.le_map (fun key hkk => ?_)
           obtain ⟨a, b, d, rfl⟩ := wk_ssi hkk
           refine ⟨rfl, ?_⟩
           show (bif keyEq [.str a, .str b, .int .i64 d] [.str (L.getD (S.getD (j : Int).toNat 0).toNat cg0).hir, .str (g.getD (gateIx g (l.getD (L.getD (S.getD (j : Int).toNat 0).toNat cg0).ix.toNat pa0).gate).toNat g0).area, .int .i64 ((atK g l L (S.getD (j : Int).toNat 0)).tdiv 1440)] then [DV.int .i64 (c.pm ((S.map Int.toNat).take j) (L.getD (S.getD (j : Int).toNat 0).toNat cg0).hir (g.getD (gateIx g (l.getD (L.getD (S.getD (j : Int).toNat 0).toNat cg0).ix.toNat pa0).gate).toNat g0).area ((atK g l L (S.getD (j : Int).toNat 0)).tdiv 1440) + (bif false then max (L.getD (S.getD (j : Int).toNat 0).toNat cg0).cents (C - c.pm ((S.map Int.toNat).take j) (L.getD (S.getD (j : Int).toNat 0).toNat cg0).hir (g.getD (gateIx g (l.getD (L.getD (S.getD (j : Int).toNat 0).toNat cg0).ix.toNat pa0).gate).toNat g0).area ((atK g l L (S.getD (j : Int).toNat 0)).tdiv 1440)) else min (L.getD (S.getD (j : Int).toNat 0).toNat cg0).cents (C - c.pm ((S.map Int.toNat).take j) (L.getD (S.getD (j : Int).toNat 0).toNat cg0).hir (g.getD (gateIx g (l.getD (L.getD (S.getD (j : Int).toNat 0).toNat cg0).ix.toNat pa0).gate).toNat g0).area ((atK g l L (S.getD (j : Int).toNat 0)).tdiv 1440))))] else [DV.int .i64 (c.pm ((S.map Int.toNat).take j) a b d)]) = [DV.int .i64 (c.pm ((S.map Int.toNat).take (j + 1)) a b d)]
           rw [keyEq_ssi, c.pm_new hcok hcO hSj hkne, hV, hPM, har, hday2, hLk]
           by_cases q : a = (c.x kn).hir ∧ b = c.ar kn ∧ d = c.day kn
           · rw [decide_eq_true q, if_pos q]; rfl
           · rw [decide_eq_false q, if_neg q]; rfl
     · have hjS : j = S.length := by omega
       have hall : L = c.out := c.part_all hLp (fun k hk => by
        rw [List.take_of_length_le (by rw [List.length_map]; omega)]
        exact hcO.perm.mem_iff.2 (List.mem_range.2 hk))
       conv => whnf
       repeat' (first | (refine br_intro ?_ ?_ <;> intro hb <;> (try simp only [brs] at hb) <;> conv => whnf) | (refine RegX.rule (id := 1) hT rfl [] oTCgC53_1 (by decide +kernel) ?_; conv => whnf) | (refine RegX.rule (id := 10) hT rfl [] oTCgC53_10 (by decide +kernel) ?_; conv => whnf) | (refine RegX.rule (id := 11) hT rfl [] oTCgC53_11 (by decide +kernel) ?_; conv => whnf) | (refine RegX.rule (id := 29) hT rfl [] oTCgC53_29 (by decide +kernel) ?_; conv => whnf) | (refine RegX.rule (id := 30) hT rfl [] oTCgC53_30 (by decide +kernel) ?_; conv => whnf) | (refine RegX.rule (id := 31) hT rfl [] oTCgC53_31 (by decide +kernel) ?_; conv => whnf) | omega | (refine And.intro ?_ ?_; ((try dsimp only); first | omega | (refine szA rfl ?_; omega) | (refine szB rfl ?_; omega) | (unfold inI64; omega) | exact rfl | (simp only [lns] at *; omega) | decide | (unfold inI64; decide)); conv => whnf) | decide | assumption)
       all_goals try (exfalso; omega)
       refine .freeze _ 15 103 4 _ _ rfl (.weak _ ?_)
       conv => whnf
       exact ⟨.tup [.d (cgxs L), .d (.int .i64 0)], [], SV.le_tup ⟨lr, lr, trivial⟩, ⟨by unfold cgR2; rw [if_neg hC, ← hc, hall], rfl⟩, trivial⟩
theorem c142 (l : List Int) (hl : l.length ≤ 2^40) (v : Int) : FSpec Tryz.prog 142 [.d (ints l), .d (.int .i64 v)] [] (fun x r => x = .d (.int .i64 (ixF (fun i => decide (v = l.getD i 0)) l.length)) ∧ r = []) := by
 refine spec_of hT (C := []) Tryz.func142 rfl Tryz.call142 rfl rfl rfl ?_
 conv => whnf
 repeat' (first | (refine br_intro ?_ ?_ <;> intro hb <;> (try simp only [brs] at hb) <;> conv => whnf) | omega | (refine And.intro ?_ ?_; ((try dsimp only); first | omega | (refine szA rfl ?_; omega) | (refine szB rfl ?_; omega) | (unfold inI64; omega) | exact rfl | (simp only [lns] at *; omega) | decide | (unfold inI64; decide)); conv => whnf) | decide | assumption)
 refine LoopX.rule hT (C := []) (ι := Nat) (fun i => i ≤ l.length ∧ ∀ j, j < i → decide (v = l.getD j 0) = false) (fun i => mkSt [(0, .d (ints l)), (1, .d (.int .i64 v)), (7, .d (.int .i64 l.length)), (8, .d (.int .i64 i))] []) (fun i => l.length - i) 0 ⟨by omega, by omega⟩ (by (refine Entails.mk' [] rfl rfl ?_ ?_ <;> repeat' (first | exact True.intro | exact lr | exact rr | exact SV.le_int (by omega) | exact SV.le_any _ | refine And.intro ?_ ?_)); done) ?_
 rintro i ⟨p1, p2⟩
 have e1 : (i : Int).toNat = i := Int.toNat_natCast i
 conv => whnf
 repeat' (first | (refine br_intro ?_ ?_ <;> intro hb <;> (try simp only [brs] at hb) <;> conv => whnf) | omega | (refine And.intro ?_ ?_; ((try dsimp only); first | omega | (refine szA rfl ?_; omega) | (refine szB rfl ?_; omega) | (unfold inI64; omega) | exact rfl | (simp only [lns] at *; omega) | decide | (unfold inI64; decide)); conv => whnf) | decide | assumption)
 · refine .ret _ ?_
   conv => whnf
   refine ⟨[], ⟨?_, rfl⟩, trivial⟩
   conv => lhs; whnf
   rw [ixF_hit (i := i) (by omega) p2 (by simpa using hb)]
 · exact ⟨i + 1, ⟨by omega, all_step p2 (by simpa using hb)⟩, by omega, (by (refine Entails.mk' [] rfl rfl ?_ ?_ <;> repeat' (first | exact True.intro | exact lr | exact rr | exact SV.le_int (by omega) | exact SV.le_any _ | refine And.intro ?_ ?_)); done)⟩
 · have : i = l.length := by omega
   subst this
   refine .ret _ ?_
   conv => whnf
   refine ⟨[], ⟨?_, rfl⟩, trivial⟩
   conv => lhs; whnf
   rw [ixF_none p2]
theorem c60 (l : List Int) (hl : l.length ≤ 2^40) (v : Int) : FSpec Tryz.prog 60 [.d (ints l), .d (.int .i64 v)] [] (fun x r => x = .d (.bool (decide (v ∈ l))) ∧ r = []) := by
 refine spec_of hT (C := []) Tryz.func60 rfl Tryz.call60 rfl rfl rfl ?_
 conv => whnf
 repeat' (first | (refine CallX.exact (c142 l hl v) rfl rfl ?_; rotate_right; conv => whnf) | (refine br_intro ?_ ?_ <;> intro hb <;> (try simp only [brs] at hb) <;> conv => whnf) | omega | (refine And.intro ?_ ?_; ((try dsimp only); first | omega | (refine szA rfl ?_; omega) | (refine szB rfl ?_; omega) | (unfold inI64; omega) | exact rfl | (simp only [lns] at *; omega) | decide | (unfold inI64; decide)); conv => whnf) | decide | assumption)
 refine .ret _ ?_
 conv => whnf
 refine ⟨[], ⟨?_, rfl⟩, trivial⟩
 conv => lhs; whnf
 have hb := ixF_bd (p := fun i => decide (v = l.getD i 0)) (n := l.length)
 congr 2
 rw [Bool.eq_iff_iff]
 simp only [decide_eq_true_eq]
 constructor
 · intro h
   have h2 := hb.2.2 h
   rw [decide_eq_true_eq] at h2
   rw [h2]
   exact getD_mem (by omega)
 · intro h
   obtain ⟨j, hj, e⟩ := mem_getD (d := (0 : Int)) h
   rcases Int.lt_or_le (ixF (fun i => decide (v = l.getD i 0)) l.length) 0 with q | q
   · have := ixF_first (p := fun i => decide (v = l.getD i 0)) (n := l.length) j hj (.inl (by omega))
     rw [e] at this; simp at this
   · exact q
theorem dbl_mem {D : Int} {l : List Pas} {i : Nat} (hi : i < l.length) : ((i : Int) ∈ dblIx D l l.length) ↔ dblB D l i = true := by
 unfold dblIx
 rw [List.mem_map]
 constructor
 · rintro ⟨j, hj, e⟩
   have : j = i := by omega
   subst this
   exact (List.mem_filter.1 hj).2
 · intro h
   exact ⟨i, List.mem_filter.2 ⟨List.mem_range.2 hi, h⟩, rfl⟩
def CgC.ctb (c : CgC) (a b : List UInt8) (d : Int) (o : Nat) : Int := if (c.x o).hir = a ∧ c.day o = d ∧ c.ar o = b then c.cap o else 0
theorem CgC.ctb_nn {c : CgC} (h : c.Ok) (a b : List UInt8) (d : Int) (o : Nat) : 0 ≤ c.ctb a b d o := by
 have := c.cap_bd h o
 unfold CgC.ctb
 split <;> omega
theorem CgC.pm_ctb {c : CgC} (h : c.Ok) {S : List Nat} (hS : c.Ord S) {a : List UInt8} (ha : a ≠ []) (b : List UInt8) (d : Int) : ∀ j, j ≤ S.length → c.pm (S.take j) a b d = ((S.take j).map (c.ctb a b d)).sum := by
 intro j
 induction j with
 | zero => intro _; rw [List.take_zero, c.pm_nil h]; rfl
 | succ j ih =>
   intro hj
   obtain ⟨k, hk⟩ : ∃ k, S[j]? = some k := ⟨S[j], List.getElem?_eq_getElem hj⟩
   have hs : ((S.take (j + 1)).map (c.ctb a b d)).sum = ((S.take j).map (c.ctb a b d)).sum + c.ctb a b d k := by
    rw [List.take_add_one, hk]; simp
   rw [hs, ← ih (by omega)]
   unfold CgC.ctb
   by_cases hke : (c.x k).hir = []
   · rw [c.pm_skip hk hke, if_neg (fun z => ha (z.1.symm.trans hke)), Int.add_zero]
   · rw [c.pm_new h hS hk hke]
     by_cases q : a = (c.x k).hir ∧ b = c.ar k ∧ d = c.day k
     · rw [if_pos q, if_pos ⟨q.1.symm, q.2.2.symm, q.2.1.symm⟩, q.1, q.2.1, q.2.2]
     · rw [if_neg q, if_neg (fun z => q ⟨z.1.symm, z.2.2.symm, z.2.1.symm⟩), Int.add_zero]
theorem sum_range_le {f : Nat → Int} (hf : ∀ o, 0 ≤ f o) {n N : Nat} (h : n ≤ N) : ((List.range n).map f).sum ≤ ((List.range N).map f).sum := by
 induction N with
 | zero => have : n = 0 := by omega
           subst this; exact Int.le_refl _
 | succ N ih =>
   rcases Nat.lt_or_ge N n with q | q
   · have : n = N + 1 := by omega
     subst this; exact Int.le_refl _
   · have := ih q
     have := hf N
     rw [List.range_succ (n := N), List.map_append, List.sum_append]
     simp only [List.map_cons, List.map_nil, List.sum_cons, List.sum_nil]
     omega
theorem CgC.sum_cap {c : CgC} (h : c.Ok) {a : List UInt8} (ha : a ≠ []) (b : List UInt8) (d : Int) {n : Nat} (hn : n ≤ c.X.length) : ((List.range n).map (c.ctb a b d)).sum ≤ c.C := by
 have hO := ord_sort c (fun p => c.tm p.toNat) (fun k => by rw [Int.toNat_natCast])
 refine Int.le_trans (sum_range_le (c.ctb_nn h a b d) hn) ?_
 rw [← perm_sum hO.perm]
 have h1 := c.pm_ctb h hO ha b d _ (Nat.le_refl _)
 rw [List.take_length] at h1
 rw [← h1]
 unfold CgC.pm
 rw [if_neg ha]
 exact Int.min_le_left _ _
def sumZ (g : List Gate) (l : List Pas) (Z : List Cgx) (a b : List UInt8) (d : Int) : Nat → Int
 | 0 => 0
 | i + 1 => sumZ g l Z a b d i + (if (Z.getD i cg0).hir ≠ [] ∧ (Z.getD i cg0).hir = a ∧ (gateP g (l.getD (Z.getD i cg0).ix.toNat pa0)).area = b ∧ (trueT g (l.getD (Z.getD i cg0).ix.toNat pa0)).tdiv 1440 = d then (Z.getD i cg0).cents else 0)
theorem sumZ_bd {g : List Gate} {l : List Pas} {Z : List Cgx} (h : ∀ k, k < Z.length → 0 ≤ (Z.getD k cg0).cents ∧ (Z.getD k cg0).cents ≤ 1000000) (a b : List UInt8) (d : Int) : ∀ n, n ≤ Z.length → 0 ≤ sumZ g l Z a b d n ∧ sumZ g l Z a b d n ≤ 1000000 * n := by
 intro n
 induction n with
 | zero => intro _; exact ⟨Int.le_refl _, Int.le_refl _⟩
 | succ n ih =>
   intro hn
   have := ih (by omega)
   have := h n (by omega)
   rw [sumZ]
   split <;> (push_cast; omega)
theorem out_get {c : CgC} {k : Nat} (hk : k < c.X.length) : c.out.getD k cg0 = c.capX k := by
 unfold CgC.out
 simp [List.getD_eq_getElem?_getD, hk]
theorem out_len (c : CgC) : c.out.length = c.X.length := by unfold CgC.out; simp
theorem sumZ_out (f : Flt) (h : List Hir) (g : List Gate) (D C : Int) (l : List Pas) {a : List UInt8} (ha : a ≠ []) (b : List UInt8) (d : Int) : ∀ n, n ≤ (cgC f h g D C l).X.length → sumZ g l (cgC f h g D C l).out a b d n = ((List.range n).map ((cgC f h g D C l).ctb a b d)).sum := by
 intro n
 induction n with
 | zero => intro _; rfl
 | succ n ih =>
   intro hn
   rw [sumZ, ih (by omega), List.range_succ, List.map_append, List.sum_append, out_get (by omega)]
   simp only [List.map_cons, List.map_nil, List.sum_cons, List.sum_nil, Int.add_zero]
   congr 1
   unfold CgC.ctb
   have e : ∀ {p q : Prop} [Decidable p] [Decidable q] {x : Int}, (p ↔ q) → (if p then x else 0) = (if q then x else 0) := fun {p q _ _ x} z => by
    by_cases w : p
    · rw [if_pos w, if_pos (z.1 w)]
    · rw [if_neg w, if_neg (fun v => w (z.2 v))]
   refine e ?_
   constructor
   · rintro ⟨_, zz2, zz3, zz4⟩; exact ⟨zz2, zz4, zz3⟩
   · rintro ⟨zz2, zz4, zz3⟩; exact ⟨fun q => ha (zz2.symm.trans q), zz2, zz3, zz4⟩
theorem cgR2_get {f : Flt} {h : List Hir} {g : List Gate} {D C F : Int} {l : List Pas} (E : cgE f h g D C F l = 0) {k : Nat} (hk : k < (cgR2 f h g D C l).length) :
 (0 ≤ ((cgR2 f h g D C l).getD k cg0).ix ∧ ((cgR2 f h g D C l).getD k cg0).ix < l.length ∧ ((cgR2 f h g D C l).getD k cg0).ix ∉ dblIx D l l.length) ∧ 0 ≤ ((cgR2 f h g D C l).getD k cg0).cents ∧ ((cgR2 f h g D C l).getD k cg0).cents ≤ (l.getD ((cgR2 f h g D C l).getD k cg0).ix.toNat pa0).cents ∧ (l.getD ((cgR2 f h g D C l).getD k cg0).ix.toNat pa0).cents ≤ 1000000 := by
 obtain ⟨E1, E2, E3, c1, c2⟩ := cgE_zero E
 have hc := form_cents (chk_form E3)
 have hX : ∀ k, k < (cgL f h g D l l.length).length → (0 ≤ ((cgL f h g D l l.length).getD k cg0).ix ∧ ((cgL f h g D l l.length).getD k cg0).ix < l.length ∧ ((cgL f h g D l l.length).getD k cg0).ix ∉ dblIx D l l.length) ∧ 0 ≤ ((cgL f h g D l l.length).getD k cg0).cents ∧ ((cgL f h g D l l.length).getD k cg0).cents = (l.getD ((cgL f h g D l l.length).getD k cg0).ix.toNat pa0).cents ∧ (l.getD ((cgL f h g D l l.length).getD k cg0).ix.toNat pa0).cents ≤ 1000000 := by
  intro k hk
  have h1 := cgL_ix hk
  have h2 := hc (l.getD ((cgL f h g D l l.length).getD k cg0).ix.toNat pa0) (getD_mem (by omega))
  refine ⟨⟨h1.1, h1.2.1, ?_⟩, by omega, h1.2.2, by omega⟩
  have hm : (cgL f h g D l l.length).getD k cg0 ∈ cgL f h g D l l.length := getD_mem hk
  generalize (cgL f h g D l l.length).getD k cg0 = x at hm
  unfold cgL at hm
  rw [List.mem_map] at hm
  obtain ⟨i, hi, rfl⟩ := hm
  rw [List.mem_filter, List.mem_range] at hi
  intro q
  have q : (i : Int) ∈ dblIx D l l.length := q
  rw [dbl_mem hi.1] at q
  have := hi.2
  rw [q] at this
  cases this
 unfold cgR2 at hk ⊢
 by_cases hC : C = -1
 · rw [if_pos hC] at hk ⊢
   obtain ⟨a, b, e, d⟩ := hX k hk
   exact ⟨a, b, by omega, d⟩
 · rw [if_neg hC] at hk ⊢
   rw [out_len] at hk
   rw [out_get hk]
   obtain ⟨a, b, e, d⟩ := hX k hk
   have hb := (cgC f h g D C l).cap_bd (cgC_ok E hC) k
   refine ⟨a, hb.1, ?_, d⟩
   have hle : (cgC f h g D C l).cap k ≤ ((cgL f h g D l l.length).getD k cg0).cents := by
    unfold CgC.cap
    show (if ((cgL f h g D l l.length).getD k cg0).hir = [] then ((cgL f h g D l l.length).getD k cg0).cents else _) ≤ _
    split
    · exact Int.le_refl _
    · show max 0 (min ((cgL f h g D l l.length).getD k cg0).cents _) ≤ _
      omega
   exact Int.le_trans hle (Int.le_of_eq e)
theorem cgR2_len (f : Flt) (h : List Hir) (g : List Gate) (D C : Int) (l : List Pas) : (cgR2 f h g D C l).length + (dblIx D l l.length).length = l.length := by
 have h1 : (cgR2 f h g D C l).length = (cgL f h g D l l.length).length := by
  unfold cgR2; split
  · rfl
  · rw [out_len]; rfl
 rw [h1]
 unfold cgL dblIx
 rw [List.length_map, List.length_map]
 have : ∀ (L : List Nat) (p : Nat → Bool), (L.filter fun i => !p i).length + (L.filter p).length = L.length := fun L p => by
  induction L with
  | nil => rfl
  | cons x L ih => cases q : p x <;> simp [q] <;> omega
 rw [this, List.length_range]
theorem cgR2_cap {f : Flt} {h : List Hir} {g : List Gate} {D C F : Int} {l : List Pas} (E : cgE f h g D C F l = 0) (hC : 0 ≤ C) {a : List UInt8} (ha : a ≠ []) (b : List UInt8) (d : Int) {n : Nat} (hn : n ≤ (cgR2 f h g D C l).length) : sumZ g l (cgR2 f h g D C l) a b d n ≤ C := by
 unfold cgR2 at hn ⊢
 rw [if_neg (by omega)] at hn ⊢
 rw [out_len] at hn
 rw [sumZ_out f h g D C l ha b d n hn]
 exact (cgC f h g D C l).sum_cap (cgC_ok E (by omega)) ha b d hn
theorem cg_dbls {f : Flt} {h : List Hir} {g : List Gate} {D C F : Int} {l : List Pas} (E : cgE f h g D C F l = 0) : dblsE D C F g l = 0 := by
 unfold cgE at E
 unfold dblsE
 simp only [firstE] at E ⊢
 grind
theorem chk_one {g : List Gate} {l : List Pas} (h : chkE g l = 0) {p : Pas} (hp : p ∈ l) : chkE g [p] = 0 := by
 obtain ⟨j, hj, rfl⟩ := mem_getD (d := pa0) hp
 have h1 : gatesE g = 0 := by
  unfold chkE at h
  split at h
  · exact absurd h (by assumption)
  · omega
 have h2 := chk_form h
 have h3 := chk_on h j hj
 have h4 : pasE l j = 0 := by
  unfold formE at h2
  split at h2
  · cases h2
  · exact firstAt_all h2 j hj
 have e : ([l.getD j pa0].getD 0 pa0) = l.getD j pa0 := rfl
 have h5 : pasE [l.getD j pa0] 0 = 0 := by
  unfold pasE at h4 ⊢
  rw [e]
  grind
 have h6 : formE [l.getD j pa0] = 0 := by
  unfold formE
  rw [if_neg (by simp)]
  exact firstAt_zero (fun i hi => by have : i = 0 := by simp at hi; omega
                                     subst this; exact h5)
 unfold chkE
 rw [if_neg (by omega), if_neg (by omega)]
 refine firstAt_zero (fun i hi => ?_)
 have : i = 0 := by simp at hi; omega
 subst this
 unfold onG
 rw [e, if_neg (by omega), if_neg (by omega)]
def pcell (p : Pas) : Res := .cells 106 ((paF p).map .d)
theorem c63 (g : Gate) (p : Pas) : FSpec Tryz.prog 63 [.agg ((gF g).map .d), .ptr 1000001 0] [(1000001, pcell p)] (fun x r => x = .d (.bool (g.key == p.gate)) ∧ r = [(1000001, pcell p)]) := by
 refine spec_of hT (C := []) Tryz.func63 rfl Tryz.call63 rfl rfl rfl ?_
 conv => whnf
 refine .ret _ ?_
 conv => whnf
 exact ⟨[(1000001, pcell p)], ⟨rfl, rfl⟩, rr, trivial⟩
theorem c62 (l : List Gate) (hl : l.length ≤ 2^40) (p : Pas) : FSpec Tryz.prog 62 [.d (gates l), .fn 63 [.ptr 1000001 0]] [(1000001, pcell p)] (fun x r => x = .d (.int .i64 (gateIx l p.gate)) ∧ r = [(1000001, pcell p)]) := by
 refine spec_of hT (C := []) Tryz.func62 rfl Tryz.call62 rfl rfl rfl ?_
 conv => whnf
 refine LoopX.rule hT (C := []) (ι := Nat) (fun i => i ≤ l.length ∧ ∀ j, j < i → ((l.getD j g0).key == p.gate) = false) (fun i => mkSt [(0, .d (gates l)), (1, .fn 63 [.ptr 1000001 0]), (7, .d (.int .i64 l.length)), (8, .d (.int .i64 i))] [(1000001, pcell p)]) (fun i => l.length - i) 0 ⟨by omega, by omega⟩ (by (refine Entails.mk' [(1000001, 1000001)] rfl rfl ?_ ?_ <;> repeat' (first | exact True.intro | exact lr | exact rr | exact SV.le_int (by omega) | exact SV.le_any _ | refine And.intro ?_ ?_)); done) ?_
 rintro i ⟨p1, p2⟩
 have e1 : (i : Int).toNat = i := Int.toNat_natCast i
 conv => whnf
 repeat' (first | (refine CallX.of (c63 (l.getD (i : Int).toNat g0) p) [(1000001, 1000001)] rfl ⟨lr, lr, trivial⟩ ⟨rr, trivial⟩ rfl rfl ?_; rintro x rout ⟨rfl, rfl⟩; refine ⟨rfl, ?_⟩; conv => whnf) | (refine br_intro ?_ ?_ <;> intro hb <;> (try simp only [brs] at hb) <;> conv => whnf) | omega | (refine And.intro ?_ ?_; ((try dsimp only); first | omega | (refine szA rfl ?_; omega) | (refine szB rfl ?_; omega) | (unfold inI64; omega) | exact rfl | (simp only [lns] at *; omega) | decide | (unfold inI64; decide)); conv => whnf) | decide | assumption)
 · refine .ret _ ?_
   conv => whnf
   refine ⟨[(1000001, pcell p)], ⟨?_, rfl⟩, rr, trivial⟩
   conv => lhs; whnf
   congr 2
   exact (ixF_hit (by omega) p2 (by simpa using hb)).symm
 · exact ⟨i + 1, ⟨by omega, all_step p2 (by simpa using hb)⟩, by omega, (by (refine Entails.mk' [(1000001, 1000001)] rfl rfl ?_ ?_ <;> repeat' (first | exact True.intro | exact lr | exact rr | exact SV.le_int (by omega) | exact SV.le_any _ | refine And.intro ?_ ?_)); done)⟩
 · refine .ret _ ?_
   conv => whnf
   refine ⟨[(1000001, pcell p)], ⟨?_, rfl⟩, rr, trivial⟩
   conv => lhs; whnf
   congr 2
   have : i = l.length := by omega
   subst this
   exact (ixF_none p2).symm
theorem c61 (g : List Gate) (hg : gOk g) (p : Pas) (hl : pOk [p]) (h : chkE g [p] = 0) : FSpec Tryz.prog 61 [.d (gates g), .agg ((paF p).map .d)] [] (fun x r => x = .tup [.d (.int .i64 (trueT g p)), .d (.int .i64 0)] ∧ r = []) := by
 have C := s90 g [p] hg hl
 rw [h] at C
 obtain ⟨⟨n1, n2⟩, n3, n4⟩ := chk_zero h
 have n5 := n4 p (by simp)
 have n6 := chk_on h 0 (by simp)
 refine spec_of hT (C := []) Tryz.func61 rfl Tryz.call61 rfl rfl rfl ?_
 conv => whnf
 repeat' (first | (refine CallX.pure C ⟨lr, SV.le_lit (by rfl) (by rfl), trivial⟩ rfl ?_; conv => whnf) | (refine CallX.exact (s155 g (by omega) p ⟨by omega, by omega⟩ (fun x hx => by have := n2 x hx; omega) n6.1) rfl rfl ?_; rotate_right; conv => whnf) | (refine br_intro ?_ ?_ <;> intro hb <;> (try simp only [brs] at hb) <;> conv => whnf) | omega | (refine And.intro ?_ ?_; ((try dsimp only); first | omega | (refine szA rfl ?_; omega) | (refine szB rfl ?_; omega) | (unfold inI64; omega) | exact rfl | (simp only [lns] at *; omega) | decide | (unfold inI64; decide)); conv => whnf) | decide | assumption)
 refine .ret _ ?_
 conv => whnf
 refine ⟨[], ⟨congrArg SV.tup ?_, rfl⟩, trivial⟩
 repeat' (refine cons_eq ?_ ?_)
 all_goals (conv => lhs; whnf)
 all_goals try (with_reducible rfl)
end Go.Proofs.YtcjfniddeibbhaaGreatDoor
namespace Go.Proofs
open Go.Shelf
def Tryz.laysGrowE_ren : Go.Shelf.Ren := ⟨fun | 4 => 266 | n => n, fun | 22 => 213 | 25 => 217 | 3 => 3 | 4 => 4 | 9 => 9 | 20 => 20 | 0 => 0 | n => n, fun | n => n⟩
theorem Tryz.laysGrowE : Go.Proofs.Lays8.n4 Tryz.prog Tryz.laysGrowE_ren := {
 mixed := by kernel_rfl
 f4 := ⟨Tryz.f266.name, by decide, Tryz.func266.trans (congrArg some (by kernel_rfl))⟩
 t0 := Tryz.underlying0
 a0 := Tryz.isAgg0
 z0 := Tryz.sizeOf0
 v0 := Tryz.zeroValue0
 t3 := Tryz.underlying3
 a3 := Tryz.isAgg3
 z3 := Tryz.sizeOf3
 v3 := Tryz.zeroValue3
 t4 := Tryz.underlying4
 a4 := Tryz.isAgg4
 z4 := Tryz.sizeOf4
 v4 := Tryz.zeroValue4
 t9 := Tryz.underlying9
 a9 := Tryz.isAgg9
 z9 := Tryz.sizeOf9
 v9 := Tryz.zeroValue9
 t20 := Tryz.underlying20
 a20 := Tryz.isAgg20
 z20 := Tryz.sizeOf20
 v20 := Tryz.zeroValue20
 t22 := Tryz.underlying213
 a22 := Tryz.isAgg213
 z22 := Tryz.sizeOf213
 v22 := Tryz.zeroValue213 }
end Go.Proofs
set_option maxRecDepth 20000
namespace Go.Proofs.YtcjfniddeibbhaaGreatDoor
open Go Go.Eng Go.RowKit
structure Ent where
 tm : Int
 desk : List UInt8
 no : Int
 words : List UInt8
def enF : Ent → List DV := fun x => [.int .i64 x.tm, .str x.desk, .int .i64 x.no, .str x.words]
def en0 : Ent := ⟨0, [], 0, []⟩
abbrev ents (l : List Ent) : DV := seqD 4 enF en0 l
theorem sGrowE (n : Nat) (hn : n ≤ 2^20) : FSpec Tryz.prog 266 [.d .nilsl, .d (.int .i64 n)] [] (fun y r => y = .buf 1000001 ∧ r = [(1000001, .buf 217 4 0 fun _ => [])]) := by
 refine FSpec.ofRow (by decide) Tryz.call266 (fun G β w vs _ hl hd => ?_)
 match vs, hl with
 | [u, v], _ =>
   have hu := hd 0 _ _ rfl rfl
   have hv := hd 1 _ _ rfl rfl
   cases hu with | d _ _ hu => cases hu with | nilsl =>
   cases hv with | d _ _ hv => cases hv with | int _ _ =>
   by_cases h0 : n = 0
   · subst h0
     refine (Go.Proofs.Any8.slices_Grow_room Go.Proofs.Tryz.laysGrowE none 0 0 0 w (by decide) (by decide) (by decide) (by decide)).mono ?_
     rintro e w' ⟨rfl, rfl⟩
     exact ⟨Below.refl _ _, _, rfl, .inl rfl⟩
   · obtain ⟨_, inf, hi, hsz, hby, hz⟩ := hT.get (t := 217) (i := (T 217).get rfl) rfl
     have hg1 := grownCap_ge w (0 + n) 0 217
     have hg2 := grownCap_le_maxLen w (0 + n) 0 217 (by simp only [maxLen]; omega)
     refine (Go.Proofs.Any8.slices_Grow_grow Go.Proofs.Tryz.laysGrowE inf _ hi hz (by rw [hsz]; decide) none 0 0 n [] w (Nat.le_refl _) (by omega) (by rw [hby]; show (0 + n) * 48 ≤ _; omega) (by omega) (by simp) (fun _ => rfl) (fun a h => by cases h)).mono ?_
     rintro e w' ⟨rfl, rfl⟩
     refine ⟨⟨rfl, rfl, rfl, ?_, fun b hb => ?_⟩, _, rfl, .inr ⟨_, _, _, rfl, Nat.le_refl _, Array.getElem?_push_size, hg2, ?_⟩⟩
     · show w.heap.size ≤ (w.heap.push _).size
       rw [Array.size_push]; omega
     · show (w.heap.push _)[b]? = w.heap[b]?
       rw [Array.getElem?_push]; exact if_neg (by omega)
     · rw [Array.size_append, Array.size_append, size_zeroCells, size_zeroCells]
       show 0 + (0 + n - 0) * 4 + (grownCap w (0 + n) 0 217 - (0 + n)) * 4 = grownCap w (0 + n) 0 217 * 4
       omega
def oTDRdB192_16 : List (Nat × List Nat) := [(0, []), (1, []), (2, []), (3, []), (4, [3]), (5, [3]), (6, []), (7, []), (8, [3, 4, 5, 6, 7]), (9, []), (10, []), (11, []), (12, [])]
def oTDRdB301_4 : List (Nat × List Nat) := [(0, []), (1, [0]), (2, []), (3, []), (4, []), (5, [4]), (6, [4, 5]), (7, [4]), (8, [4]), (9, [4, 5, 6, 7, 8]), (10, [4, 5, 6, 7, 8, 9]), (11, [4, 5, 6, 7, 8, 9]), (12, [4, 5, 6, 7, 8]), (13, [4, 5, 6, 7, 8]), (14, []), (15, []), (16, [])]
def oTDRdB301_6 : List (Nat × List Nat) := [(0, []), (1, [0]), (2, [0, 1]), (3, [0, 1, 2]), (4, [0, 1, 2]), (5, [0, 1, 2, 3, 4]), (6, [0, 1, 2, 3, 4, 5]), (7, [0, 1, 2, 3, 4, 5]), (8, [0, 1, 2, 3, 4]), (9, [0, 1, 2, 3, 4]), (10, [0, 1, 2, 3, 4, 5, 6, 7, 8, 9]), (11, [0, 1, 2, 3, 4, 5, 6, 7, 8, 9, 10]), (12, [0, 1, 2, 3, 4, 5, 6, 7, 8, 9]), (13, [0, 1, 2, 3, 4, 5, 6, 7, 8, 9]), (14, [2, 3, 4]), (15, [2, 3, 4]), (16, []), (17, [])]
def oTDRdB199_6 : List (Nat × List Nat) := [(0, []), (1, [0]), (2, []), (3, []), (4, [0, 1, 2, 3]), (5, [0, 1, 2, 3, 4]), (6, [0, 1, 2, 3, 4]), (7, [0, 1, 2, 3]), (8, [0, 1, 2, 3]), (9, [])]
def oTDRdB199_11 : List (Nat × List Nat) := [(0, []), (1, [0]), (2, []), (3, []), (4, [0, 1, 2, 3]), (5, [0, 1, 2, 3, 4]), (6, [0, 1, 2, 3, 4]), (7, [0, 1, 2, 3]), (8, [0, 1, 2, 3]), (9, [])]
def esF : List Ent → List DV := fun l => [ents l]
abbrev entss (l : List (List Ent)) : DV := seqD 1 esF [] l
def lensE (l : List (List Ent)) : Nat := (l.map List.length).sum
theorem lensE_take {l : List (List Ent)} {i : Nat} (h : i < l.length) : lensE (l.take (i + 1)) = lensE (l.take i) + (l.getD i []).length := by
 unfold lensE; rw [take_snocD (d := []) h]; simp
theorem lensE_le {l : List (List Ent)} {i : Nat} : lensE (l.take i) ≤ lensE l := by
 have h := congrArg lensE (List.take_append_drop i l)
 have h2 : lensE (l.take i ++ l.drop i) = lensE (l.take i) + lensE (l.drop i) := by unfold lensE; rw [List.map_append, List.sum_append]
 omega
theorem flat_lenE (l : List (List Ent)) : l.flatten.length = lensE l := by
 unfold lensE; rw [List.length_flatten]
theorem sConcatE (l : List (List Ent)) (hl : l.length ≤ 2^20) (hn : lensE l ≤ 2^20) :
 FSpec Tryz.prog 193 [.d (entss l)] [] (fun y r => y = .buf 6 ∧ r = [(6, seqB 217 4 enF en0 l.flatten)]) := by
 refine spec_of hT (C := []) Tryz.func193 rfl Tryz.call193 rfl rfl rfl ?_
 conv => whnf
 refine LoopX.rule hT (C := []) (ι := Nat) (fun i => i ≤ l.length) (fun i => mkSt [(0, .d (entss l)), (3, .d (.int .i64 (lensE (l.take i)))), (9, .d (entss l)), (10, .d (.int .i64 l.length)), (11, .d (.int .i64 i))] []) (fun i => l.length - i) 0 (by omega) (by (refine Entails.mk' [] rfl rfl ?_ ?_ <;> repeat' (first | exact True.intro | exact lr | exact rr | exact SV.le_int (by omega) | exact SV.le_any _ | refine And.intro ?_ ?_)); done) ?_
 rintro i p1
 have e1 : (i : Int).toNat = i := Int.toNat_natCast i
 have hls : lensE (l.take i) ≤ lensE l := lensE_le
 have hls2 : i < l.length → lensE (l.take i) + (l.getD (i : Int).toNat []).length ≤ lensE l := fun h => by rw [e1, ← lensE_take h]; exact lensE_le
 conv => whnf
 repeat' (first | (refine br_intro ?_ ?_ <;> intro hb <;> (try simp only [brs] at hb) <;> conv => whnf) | omega | (refine And.intro ?_ ?_; ((try dsimp only); first | omega | (refine szA rfl ?_; omega) | (refine szB rfl ?_; omega) | (unfold inI64; omega) | exact rfl | (simp only [lns] at *; omega) | decide | (unfold inI64; decide)); conv => whnf) | decide | assumption)
 · refine ⟨i + 1, by omega, by omega, Entails.mk' [] rfl rfl ⟨lr, SV.le_int ?_, lr, lr, lr, trivial⟩ trivial⟩
   rw [lensE_take (by omega), e1]; omega
 have hi : i = l.length := by omega
 subst hi
 rw [List.take_length] at *
 refine CallX.of (sGrowE (lensE l) hn) [(1000001, 24)] rfl ⟨lr, lr, trivial⟩ trivial rfl rfl ?_
 rintro x rout ⟨rfl, rfl⟩
 refine ⟨rfl, ?_⟩
 conv => whnf
 repeat' (first | (refine br_intro ?_ ?_ <;> intro hb <;> (try simp only [brs] at hb) <;> conv => whnf) | omega | (refine And.intro ?_ ?_; ((try dsimp only); first | omega | (refine szA rfl ?_; omega) | (refine szB rfl ?_; omega) | (unfold inI64; omega) | exact rfl | (simp only [lns] at *; omega) | decide | (unfold inI64; decide)); conv => whnf) | decide | assumption)
 refine LoopX.rule hT (C := []) (ι := Nat) (fun i => i ≤ l.length) (fun i => mkSt [(6, .buf 6), (25, .d (entss l)), (26, .d (.int .i64 l.length)), (27, .d (.int .i64 i))] [(6, seqB 217 4 enF en0 (l.take i).flatten)]) (fun i => l.length - i) 0 (by omega) ?_ ?_
 · exact Entails.mk' [(6, 24)] rfl rfl ⟨lr, lr, lr, lr, trivial⟩ ⟨Res.le_buf rfl (fun i hi => absurd hi (by omega)), trivial⟩
 rintro i p1
 have e1 : (i : Int).toNat = i := Int.toNat_natCast i
 have hls : lensE (l.take i) ≤ lensE l := lensE_le
 have hf := flat_lenE (l.take i)
 have hls2 : (i : Int) < l.length → (l.take i).flatten.length + (l.getD (i : Int).toNat []).length ≤ 2^20 := fun h => by rw [e1, hf, ← lensE_take (by omega)]; exact Nat.le_trans lensE_le hn
 conv => whnf
 repeat' (first | (refine br_intro ?_ ?_ <;> intro hb <;> (try simp only [brs] at hb) <;> conv => whnf) | omega | (refine And.intro ?_ ?_; ((try dsimp only); first | omega | (refine szA rfl ?_; omega) | (refine szB rfl ?_; omega) | (unfold inI64; omega) | exact rfl | (simp only [lns] at *; omega) | decide | (unfold inI64; decide)); conv => whnf) | decide | assumption)
 · have e2 : (l.take (i + 1)).flatten = (l.take i).flatten ++ l.getD (i : Int).toNat [] := by rw [take_snocD (d := []) (by omega), e1]; simp
   refine ⟨i + 1, by omega, by omega, Entails.mk' [(6, 33)] rfl rfl ⟨lr, lr, lr, lr, trivial⟩ ⟨?_, trivial⟩⟩
   rw [e2]; exact Res.le_appF
 · have hi : i = l.length := by omega
   subst hi
   refine .ret _ ?_
   conv => whnf
   refine ⟨_, ⟨rfl, rfl⟩, ?_, trivial⟩
   rw [List.take_length]; exact rr
def e1 : Ent := ⟨1, [100], 1, [120]⟩
theorem sPrinted1 : FSpec Tryz.prog 265 [.d (.str [120])] [] (fun x r => x = .d (.bool true) ∧ r = []) := by
 refine spec_of hT (C := []) Tryz.func265 rfl Tryz.call265 rfl rfl rfl ?_
 conv => whnf
 repeat' (first | (refine LoopX.run hT (C := []) 4 rfl [0, 5, 6] [] (fun _ _ h => h) (fun _ h => h) ?_; conv => whnf) | (refine br_intro ?_ ?_ <;> intro hb <;> (try simp only [brs] at hb) <;> conv => whnf) | omega | (refine And.intro ?_ ?_; ((try dsimp only); first | omega | (refine szA rfl ?_; omega) | (refine szB rfl ?_; omega) | (unfold inI64; omega) | exact rfl | (simp only [lns] at *; omega) | decide | (unfold inI64; decide)); conv => whnf) | decide | assumption)
 refine .ret _ ?_
 conv => whnf
 refine ⟨[], ⟨?_, rfl⟩, trivial⟩
 conv => lhs; whnf
set_option maxHeartbeats 4000000 in
theorem sDChk1 : FSpec Tryz.prog 192 [.d (ents [e1])] [] (fun x r => x = .d (.int .i64 0) ∧ r = []) := by
 have h108 := s108 [100] (by simp)
 rw [show isKeyB [100] = true from by decide] at h108
 refine spec_of hT (C := []) Tryz.func192 rfl Tryz.call192 rfl rfl rfl ?_
 conv => whnf
 repeat' (first | (refine LoopX.run hT (C := []) 10 rfl [0, 3, 11, 12, 13] [] (fun _ _ h => h) (fun _ h => h) ?_; conv => whnf) | (refine CallX.exact (s154 1) rfl rfl ?_; rotate_right; conv => whnf) | (refine CallX.exact (h108) rfl rfl ?_; rotate_right; conv => whnf) | (refine CallX.exact (s119 1 1 1000000) rfl rfl ?_; rotate_right; conv => whnf) | (refine CallX.exact (sPrinted1) rfl rfl ?_; rotate_right; conv => whnf) | (refine br_intro ?_ ?_ <;> intro hb <;> (try simp only [brs] at hb) <;> conv => whnf) | (refine RegX.rule (id := 16) hT rfl [] oTDRdB192_16 (by decide +kernel) ?_; conv => whnf) | omega | (refine And.intro ?_ ?_; ((try dsimp only); first | omega | (refine szA rfl ?_; omega) | (refine szB rfl ?_; omega) | (unfold inI64; omega) | exact rfl | (simp only [lns] at *; omega) | decide | (unfold inI64; decide)); conv => whnf) | decide | assumption)
 refine .ret _ ?_
 conv => whnf
 refine ⟨[], ⟨?_, rfl⟩, trivial⟩
 conv => lhs; whnf
theorem sDChk0 : FSpec Tryz.prog 192 [.d (ents [])] [] (fun x r => x = .d (.int .i64 0) ∧ r = []) := by
 refine spec_of hT (C := []) Tryz.func192 rfl Tryz.call192 rfl rfl rfl ?_
 conv => whnf
 repeat' (first | (refine LoopX.run hT (C := []) 10 rfl [0, 3, 11, 12, 13] [] (fun _ _ h => h) (fun _ h => h) ?_; conv => whnf) | (refine br_intro ?_ ?_ <;> intro hb <;> (try simp only [brs] at hb) <;> conv => whnf) | (refine RegX.rule (id := 16) hT rfl [] oTDRdB192_16 (by decide +kernel) ?_; conv => whnf) | omega | (refine And.intro ?_ ?_; ((try dsimp only); first | omega | (refine szA rfl ?_; omega) | (refine szB rfl ?_; omega) | (unfold inI64; omega) | exact rfl | (simp only [lns] at *; omega) | decide | (unfold inI64; decide)); conv => whnf) | decide | assumption)
 refine .ret _ ?_
 conv => whnf
 refine ⟨[], ⟨?_, rfl⟩, trivial⟩
 conv => lhs; whnf
abbrev enB (l : List Ent) : Res := seqB 217 4 enF en0 l
theorem sIns1 : FSpec Tryz.prog 301 [.buf 1000001, .d (.int .i64 0), .d (.int .i64 1), .fn 195 []] [(1000001, enB [e1])] (fun y r => y = .tup [] ∧ r = [(1000001, enB [e1])]) := by
 refine spec_of hT (C := []) Tryz.func301 rfl Tryz.call301 rfl rfl rfl ?_
 conv => whnf
 repeat' (first | (refine LoopX.run hT (C := []) 2 rfl [0, 1, 2, 3, 8] [1000001] (fun _ _ h => h) (fun _ h => h) ?_; conv => whnf) | (refine LoopX.run hT (C := []) 8 rfl [0, 1, 2, 3, 8, 9] [1000001] (fun _ _ h => h) (fun _ h => h) ?_; conv => whnf) | (refine br_intro ?_ ?_ <;> intro hb <;> (try simp only [brs] at hb) <;> conv => whnf) | (refine RegX.rule (id := 4) hT rfl [] oTDRdB301_4 (by decide +kernel) ?_; conv => whnf) | (refine RegX.rule (id := 6) hT rfl [] oTDRdB301_6 (by decide +kernel) ?_; conv => whnf) | omega | (refine And.intro ?_ ?_; ((try dsimp only); first | omega | (refine szA rfl ?_; omega) | (refine szB rfl ?_; omega) | (unfold inI64; omega) | exact rfl | (simp only [lns] at *; omega) | decide | (unfold inI64; decide)); conv => whnf) | decide | assumption)
 refine .ret _ ?_
 conv => whnf
 exact ⟨_, ⟨rfl, rfl⟩, rr, trivial⟩
theorem sStb1 : FSpec Tryz.prog 267 [.buf 1000001, .d (.int .i64 1), .fn 195 []] [(1000001, enB [e1])] (fun y r => y = .tup [] ∧ r = [(1000001, enB [e1])]) := by
 refine spec_of hT (C := []) Tryz.func267 rfl Tryz.call267 rfl rfl rfl ?_
 conv => whnf
 repeat' (first | (refine LoopX.run hT (C := []) 4 rfl [0, 1, 2, 6, 7, 8] [1000001] (fun _ _ h => h) (fun _ h => h) ?_; conv => whnf) | (refine LoopX.run hT (C := []) 14 rfl [0, 1, 2, 6] [1000001] (fun _ _ h => h) (fun _ h => h) ?_; conv => whnf) | (refine LoopX.run hT (C := []) 18 rfl [0, 1, 2, 6, 7, 8] [1000001] (fun _ _ h => h) (fun _ h => h) ?_; conv => whnf) | (refine CallX.of sIns1 [(1000001, 1000001)] rfl ⟨lr, lr, lr, lr, trivial⟩ ⟨rr, trivial⟩ rfl rfl ?_; rintro x rout ⟨rfl, rfl⟩; refine ⟨rfl, ?_⟩; conv => whnf) | (refine br_intro ?_ ?_ <;> intro hb <;> (try simp only [brs] at hb) <;> conv => whnf) | omega | (refine And.intro ?_ ?_; ((try dsimp only); first | omega | (refine szA rfl ?_; omega) | (refine szB rfl ?_; omega) | (unfold inI64; omega) | exact rfl | (simp only [lns] at *; omega) | decide | (unfold inI64; decide)); conv => whnf) | decide | assumption)
 refine .ret _ ?_
 conv => whnf
 exact ⟨_, ⟨rfl, rfl⟩, rr, trivial⟩
theorem sSrt1 : FSpec Tryz.prog 194 [.buf 1000001, .fn 195 []] [(1000001, enB [e1])] (fun y r => y = .tup [] ∧ r = [(1000001, enB [e1])]) := by
 refine spec_of hT (C := []) Tryz.func194 rfl Tryz.call194 rfl rfl rfl ?_
 conv => whnf
 repeat' (first | (refine CallX.of sStb1 [(1000001, 1000001)] rfl ⟨lr, lr, lr, trivial⟩ ⟨rr, trivial⟩ rfl rfl ?_; rintro x rout ⟨rfl, rfl⟩; refine ⟨rfl, ?_⟩; conv => whnf) | (refine br_intro ?_ ?_ <;> intro hb <;> (try simp only [brs] at hb) <;> conv => whnf) | omega | (refine And.intro ?_ ?_; ((try dsimp only); first | omega | (refine szA rfl ?_; omega) | (refine szB rfl ?_; omega) | (unfold inI64; omega) | exact rfl | (simp only [lns] at *; omega) | decide | (unfold inI64; decide)); conv => whnf) | decide | assumption)
 refine .ret _ ?_
 conv => whnf
 exact ⟨_, ⟨rfl, rfl⟩, rr, trivial⟩
theorem sCmp1 : FSpec Tryz.prog 199 [.buf 1000001] [(1000001, enB [e1])] (fun y r => y = .buf 1000001 ∧ r = [(1000001, enB [e1])]) := by
 refine spec_of hT (C := []) Tryz.func199 rfl Tryz.call199 rfl rfl rfl ?_
 conv => whnf
 repeat' (first | (refine br_intro ?_ ?_ <;> intro hb <;> (try simp only [brs] at hb) <;> conv => whnf) | (refine RegX.rule (id := 6) hT rfl [] oTDRdB199_6 (by decide +kernel) ?_; conv => whnf) | (refine RegX.rule (id := 11) hT rfl [] oTDRdB199_11 (by decide +kernel) ?_; conv => whnf) | omega | (refine And.intro ?_ ?_; ((try dsimp only); first | omega | (refine szA rfl ?_; omega) | (refine szB rfl ?_; omega) | (unfold inI64; omega) | exact rfl | (simp only [lns] at *; omega) | decide | (unfold inI64; decide)); conv => whnf) | decide | assumption)
 refine .ret _ ?_
 conv => whnf
 exact ⟨_, ⟨rfl, rfl⟩, rr, trivial⟩
set_option maxHeartbeats 4000000 in
theorem sMerge1 : FSpec Tryz.prog 141 [.d (ents [e1]), .d (ents [])] [] (fun y r => y = .tup [.d (ents [e1]), .d (.int .i64 0)] ∧ r = []) := by
 have h105 := s105 [0, 0] (by simp)
 have hc := sConcatE [[e1], []] (by simp) (by decide)
 refine spec_of hT (C := []) Tryz.func141 rfl Tryz.call141 rfl rfl rfl ?_
 conv => whnf
 repeat' (first | (refine CallX.exact (sDChk1) rfl rfl ?_; rotate_right; conv => whnf) | (refine CallX.exact (sDChk0) rfl rfl ?_; rotate_right; conv => whnf) | (refine CallX.pure h105 ⟨SV.le_lit (by rfl) (by rfl), trivial⟩ rfl ?_; conv => whnf) | (refine br_intro ?_ ?_ <;> intro hb <;> (try simp only [brs] at hb) <;> conv => whnf) | omega | (refine And.intro ?_ ?_; ((try dsimp only); first | omega | (refine szA rfl ?_; omega) | (refine szB rfl ?_; omega) | (unfold inI64; omega) | exact rfl | (simp only [lns] at *; omega) | decide | (unfold inI64; decide)); conv => whnf) | decide | assumption)
 refine CallX.of hc [(6, 24)] rfl ⟨SV.le_lit (by rfl) (by rfl), trivial⟩ trivial rfl rfl ?_
 rintro x rout ⟨rfl, rfl⟩
 refine ⟨rfl, ?_⟩
 conv => whnf
 repeat' (first | (refine CallX.of sSrt1 [(1000001, 24)] rfl ⟨lr, lr, trivial⟩ ⟨rr, trivial⟩ rfl rfl ?_; rintro x rout ⟨rfl, rfl⟩; refine ⟨rfl, ?_⟩; conv => whnf) | (refine CallX.of sCmp1 [(1000001, 24)] rfl ⟨lr, trivial⟩ ⟨rr, trivial⟩ rfl rfl ?_; rintro x rout ⟨rfl, rfl⟩; refine ⟨rfl, ?_⟩; conv => whnf) | (refine LoopX.run hT (C := []) 18 rfl [7, 8, 30, 31, 32] [24] (fun _ _ h => h) (fun _ h => h) ?_; conv => whnf) | (refine br_intro ?_ ?_ <;> intro hb <;> (try simp only [brs] at hb) <;> conv => whnf) | omega | (refine And.intro ?_ ?_; ((try dsimp only); first | omega | (refine szA rfl ?_; omega) | (refine szB rfl ?_; omega) | (unfold inI64; omega) | exact rfl | (simp only [lns] at *; omega) | decide | (unfold inI64; decide)); conv => whnf) | decide | assumption)
 refine .freeze _ 24 217 4 _ _ rfl (.weak _ ?_)
 conv => whnf
 exact ⟨.tup [.d (ents [e1]), .d (.int .i64 0)], _, SV.le_tup ⟨lr, lr, trivial⟩, ⟨rfl, rfl⟩, trivial⟩
theorem dueE_1 : dueE ⟨0, 0, 1, 0⟩ ⟨[110], [65, 65], 0, 0, 7⟩ 0 = 0 := by decide +kernel
theorem dueV_1 : dueV ⟨0, 0, 1, 0⟩ ⟨[110], [65, 65], 0, 0, 7⟩ 0 = 7 := by decide +kernel
theorem dueW_1 : dueW ⟨0, 0, 1, 0⟩ ⟨[110], [65, 65], 0, 0, 7⟩ 0 = .tup [.d (.int .i64 7), .d (.int .i64 0)] := by unfold dueW; rw [if_pos dueE_1, dueV_1]
set_option maxHeartbeats 4000000 in
theorem sReady : FSpec Tryz.prog 58 [] [] (fun x r => x = .d (.bool true) ∧ r = []) := by
 have h35 := s35 3 [1, 1] (by simp)
 rw [splitF_31, if_pos rfl, splitG_31] at h35
 have hd := sDue ⟨0, 0, 1, 0⟩ ⟨[110], [65, 65], 0, 0, 7⟩ 0 ⟨by simp, by simp⟩
 rw [dueW_1] at hd
 refine spec_of hT (C := []) Tryz.func58 rfl Tryz.call58 rfl rfl rfl ?_
 conv => whnf
 repeat' (first | (refine CallX.pure h35 ⟨lr, SV.le_lit (by rfl) (by rfl), trivial⟩ rfl ?_; conv => whnf) | (refine CallX.exact (hd) rfl rfl ?_; rotate_right; conv => whnf) | (refine CallX.pure s27t ⟨SV.le_lit rfl rfl, SV.le_lit rfl rfl, trivial⟩ rfl ?_; conv => whnf) | (refine CallX.pure sMerge1 ⟨SV.le_lit rfl rfl, SV.le_nilS, trivial⟩ rfl ?_; conv => whnf) | (refine br_intro ?_ ?_ <;> intro hb <;> (try simp only [brs] at hb) <;> conv => whnf) | omega | (refine And.intro ?_ ?_; ((try dsimp only); first | omega | (refine szA rfl ?_; omega) | (refine szB rfl ?_; omega) | (unfold inI64; omega) | exact rfl | (simp only [lns] at *; omega) | decide | (unfold inI64; decide)); conv => whnf) | decide | assumption)
 all_goals first
  | (exfalso; omega)
  | (refine .ret _ ?_
     conv => whnf
     refine ⟨[], ⟨?_, rfl⟩, trivial⟩
     conv => lhs; whnf
     all_goals rfl)
def oTCgH9_11 : List (Nat × List Nat) := [(0, []), (1, []), (2, []), (3, []), (4, []), (5, []), (6, [4, 5]), (7, [4, 5]), (8, []), (9, []), (10, []), (11, []), (12, [11]), (13, [11]), (14, []), (15, []), (16, []), (17, []), (18, []), (19, []), (20, []), (21, []), (22, []), (23, []), (24, [22, 23]), (25, [22, 23, 24]), (26, [22, 23, 24]), (27, [22, 23]), (28, [22, 23]), (29, [22, 23]), (30, []), (31, [])]
def oTCgH9_17 : List (Nat × List Nat) := [(0, []), (1, []), (2, [0, 1]), (3, [0, 1, 2]), (4, [0, 1]), (5, [0, 1]), (6, [0, 1]), (7, [0, 1, 2, 3, 4, 5, 6]), (8, [0, 1, 2, 3, 4, 5, 6]), (9, []), (10, [0, 1, 2, 3, 4, 5, 6, 7, 8, 9]), (11, [])]
def oTCgH9_18 : List (Nat × List Nat) := [(0, []), (1, [0]), (2, []), (3, [0, 1, 2]), (4, [0, 1, 2]), (5, []), (6, [2, 5]), (7, [2, 5]), (8, [])]
def oTCgH9_19 : List (Nat × List Nat) := [(0, []), (1, []), (2, []), (3, []), (4, []), (5, [4]), (6, []), (7, [4, 5, 6]), (8, [4, 5, 6]), (9, []), (10, [])]
theorem kss {a b : List UInt8} {d : Int} : keyEq [.str a, .str b, .int .i64 d] [.str a, .str b, .int .i64 d] = true := by rw [keyEq_ssi]; exact decide_eq_true ⟨rfl, rfl, rfl⟩
set_option maxHeartbeats 8000000 in
theorem z9 (n : Nat) (L : Nat → Int) (hn : n ≤ maxLen) (hl : ∀ i, -2^63 ≤ L i ∧ L i < 2^63) : FSpec Tryz.prog 9 [.d (.ro 1 n fun i => [.int .i64 (L i)])] [] (fun x r => x = .d (.bool true) ∧ r = []) := by
 have hL : Rok n L := ⟨hn, hl⟩
 refine spec_of hT (C := []) Tryz.func9 rfl Tryz.call9 rfl rfl rfl ?_
 conv => whnf
 repeat' (first | (refine CallX.of (sRFlt n L hL _ ?_ ?_) [(1000000, 23), (10, 10), (20, 20), (30, 30)] rfl ⟨lr, trivial⟩ ⟨rr, trivial⟩ rfl rfl ?_; rotate_right; rintro xx rout ⟨st, cs, vs, ps, bb, ⟨k1, k2, k3, k4⟩, ⟨b1, b2⟩, rfl, rfl⟩; refine ⟨rfl, ?_⟩; conv => whnf) | (refine CallX.of (s64 n L hL _ ?_ ?_ 0 3 ?_ ?_ ?_ ?_) [(1000000, 23)] rfl ⟨lr, lr, lr, trivial⟩ ⟨rr, trivial⟩ rfl rfl ?_; rotate_right; rintro x rout ⟨⟨m, hm0, hm1, rfl⟩, ⟨c, c1, c2, rfl⟩⟩; refine ⟨rfl, ?_⟩; conv => whnf) | (refine CallX.of (sHirs n L hL _ ?_ ?_ m ?_ ?_) [(1000000, 23)] rfl ⟨lr, lr, trivial⟩ ⟨rr, trivial⟩ rfl rfl ?_; rotate_right; rintro xx rout ⟨⟨h, hl5, rfl⟩, ⟨c, c5, c6, rfl⟩⟩; refine ⟨rfl, ?_⟩; conv => whnf) | (refine CallX.of (s62 n L hL _ ?_ ?_) [(1000000, 23)] rfl ⟨lr, trivial⟩ ⟨rr, trivial⟩ rfl rfl ?_; rotate_right; rintro xx rout ⟨⟨g, hg, rfl⟩, ⟨c, c7, c8, rfl⟩⟩; refine ⟨rfl, ?_⟩; conv => whnf) | (refine CallX.of (s13 n L hL _ ?_ ?_) [(1000000, 23)] rfl ⟨lr, trivial⟩ ⟨rr, trivial⟩ rfl rfl ?_; rotate_right; rintro xx rout ⟨⟨D, C, F, rfl⟩, ⟨c, c11, c12, rfl⟩⟩; refine ⟨rfl, ?_⟩; conv => whnf) | (refine CallX.of (s64 n L hL _ ?_ ?_ 0 12 ?_ ?_ ?_ ?_) [(1000000, 23)] rfl ⟨lr, lr, lr, trivial⟩ ⟨rr, trivial⟩ rfl rfl ?_; rotate_right; rintro x rout ⟨⟨m2, hm3, hm4, rfl⟩, ⟨c, c1, c2, rfl⟩⟩; refine ⟨rfl, ?_⟩; conv => whnf) | (refine CallX.of (s63 n L hL _ ?_ ?_ m2 ?_ ?_) [(1000000, 23)] rfl ⟨lr, lr, trivial⟩ ⟨rr, trivial⟩ rfl rfl ?_; rotate_right; rintro xx rout ⟨⟨x, hx, rfl⟩, ⟨c, c9, c10, rfl⟩⟩; refine ⟨rfl, ?_⟩; conv => whnf) | (refine br_intro ?_ ?_ <;> intro hb <;> (try simp only [brs] at hb) <;> conv => whnf) | (refine RegX.rule (id := 11) hT rfl [] oTCgH9_11 (by decide +kernel) ?_; conv => whnf) | (refine RegX.rule (id := 17) hT rfl [] oTCgH9_17 (by decide +kernel) ?_; conv => whnf) | (refine RegX.rule (id := 18) hT rfl [] oTCgH9_18 (by decide +kernel) ?_; conv => whnf) | (refine RegX.rule (id := 19) hT rfl [] oTCgH9_19 (by decide +kernel) ?_; conv => whnf) | omega | (refine And.intro ?_ ?_; ((try dsimp only); first | omega | (refine szA rfl ?_; omega) | (refine szB rfl ?_; omega) | (unfold inI64; omega) | exact rfl | (simp only [lns] at *; omega) | decide | (unfold inI64; decide)); conv => whnf) | decide | assumption)
 have hok : hiOk h := ⟨by have := hl5.1; omega, fun y hy => hiB_K (hl5.2 y hy) (by omega)⟩
 have hlg : ∀ y ∈ h, y.legs.length ≤ 2^40 := fun y hy => (hok.2 y hy).2.2.1
 have hgk : gOk g := ⟨by have := hg.1; omega, fun y hy => ⟨by have := (hg.2 y hy).1; omega, by have := (hg.2 y hy).2; omega⟩⟩
 have hxk : pOk x := ⟨by have := hx.1; omega, fun y hy => ⟨by have := (hx.2 y hy).1; omega, by have := (hx.2 y hy).2.1; omega⟩⟩
 have hxl : x.length < 20 := by have := hx.1; omega
 obtain ⟨f, hf⟩ : ∃ f : Flt, f = ⟨st, cs, vs, ps⟩ := ⟨_, rfl⟩
 have hfk : fltOk f := by
  rw [hf]
  exact (⟨allK_le k1 (by omega), ⟨by show cs.length ≤ 4; have := k2.1; omega, k2.2⟩, allK_le k3 (by omega), allK_le k4 (by omega)⟩ : fltK _).ok
 have C53 := c53 f hfk h hok hlg g hgk D C F x hxk hxl
 have C65 := s65 g D C F x hgk hxk
 by_cases E : cgE f h g D C F x = 0
 · rw [cg_dbls E, if_pos rfl] at C65
   rw [if_neg (by omega)] at C53
   rw [hf] at C53
   obtain ⟨Z, hZ⟩ : ∃ Z, Z = cgR2 f h g D C x := ⟨_, rfl⟩
   rw [← hf, ← hZ, hf] at C53
   repeat' (first | (refine CallX.freeze _ _ _ _ 10 121 15 _ _ rfl rfl ?_; refine CallX.freeze _ _ _ _ 20 124 2 _ _ rfl rfl ?_; refine CallX.freeze _ _ _ _ 30 126 3 _ _ rfl rfl ?_; refine CallX.pure C53 ⟨SV.le_agg ⟨lr, lr, lr, lr, trivial⟩, lr, lr, lr, lr, trivial⟩ rfl ?_; conv => whnf) | (refine CallX.exact (C65) rfl rfl ?_; rotate_right; conv => whnf) | (refine br_intro ?_ ?_ <;> intro hb <;> (try simp only [brs] at hb) <;> conv => whnf) | (refine RegX.rule (id := 11) hT rfl [] oTCgH9_11 (by decide +kernel) ?_; conv => whnf) | (refine RegX.rule (id := 17) hT rfl [] oTCgH9_17 (by decide +kernel) ?_; conv => whnf) | (refine RegX.rule (id := 18) hT rfl [] oTCgH9_18 (by decide +kernel) ?_; conv => whnf) | (refine RegX.rule (id := 19) hT rfl [] oTCgH9_19 (by decide +kernel) ?_; conv => whnf) | omega | (refine And.intro ?_ ?_; ((try dsimp only); first | omega | (refine szA rfl ?_; omega) | (refine szB rfl ?_; omega) | (unfold inI64; omega) | exact rfl | (simp only [lns] at *; omega) | decide | (unfold inI64; decide)); conv => whnf) | decide | assumption)
   have hZl := cgR2_len f h g D C x
   have hZg : ∀ k, k < Z.length → _ := fun k hk => cgR2_get E (k := k) (by rw [← hZ]; exact hk)
   rw [← hZ] at hZl hZg
   have hZb : ∀ k, k < Z.length → 0 ≤ (Z.getD k cg0).cents ∧ (Z.getD k cg0).cents ≤ 1000000 := fun k hk => by have := hZg k hk; omega
   obtain ⟨E1, E2, E3, q1, q2⟩ := cgE_zero E
   have hon := chk_on E3
   obtain ⟨⟨n1, n2⟩, n3, n4⟩ := chk_zero E3
   have hix2 := dblIx_len (D := D) (l := x) (n := x.length)
   refine LoopX.rule hT (C := []) (ι := Nat × (List UInt8 → List UInt8 → Int → Bool)) (fun (i, _) => i ≤ Z.length)
    (fun (i, H) => mkSt [(6, .d (gates g)), (7, .ptr 7 0), (8, .d (pass x)), (9, .d (cgxs Z)), (11, .d (ints (dblIx D x x.length))), (12, .d (.int .i64 0)), (13, .mp 13), (63, .d (cgxs Z)), (64, .d (.int .i64 Z.length)), (65, .d (.int .i64 i))] [(7, .cells 95 [.d (.int .i64 D), .d (.int .i64 C), .d (.int .i64 F)]), (13, paidM H (fun a b d => sumZ g x Z a b d i))])
    (fun (i, _) => Z.length - i) (0, fun _ _ _ => false) (Nat.zero_le _) ?_ ?_
   · exact Entails.mk' [(7, 7), (13, 62)] rfl rfl ⟨lr, lr, lr, lr, lr, lr, lr, lr, lr, lr, trivial⟩ ⟨rr, Res.le_map (fun key hkk => by obtain ⟨a, b, d, rfl⟩ := wk_ssi hkk; exact ⟨rfl, rfl⟩), trivial⟩
   rintro ⟨i, H⟩ p1
   have p1 : i ≤ Z.length := p1
   have e1 : (i : Int).toNat = i := Int.toNat_natCast i
   rcases Nat.lt_or_ge i Z.length with hi | hi
   · have hzi := hZg i hi
     obtain ⟨⟨y1, y2, y3⟩, y4, y5, y6⟩ := hzi
     have hzi := hZg i hi
     rw [← e1] at hzi
     obtain ⟨⟨zz1, zz2, zz3⟩, zz4, zz5, zz6⟩ := hzi
     have hpm : x.getD (Z.getD (i : Int).toNat cg0).ix.toNat pa0 ∈ x := getD_mem (by omega)
     have hoi := hon (Z.getD (i : Int).toNat cg0).ix.toNat (by omega)
     have hb1 := hxk.2 _ hpm
     have hpk1 : pOk [x.getD (Z.getD (i : Int).toNat cg0).ix.toNat pa0] := ⟨by simp, fun p hp => by rw [List.mem_singleton] at hp; subst hp; exact hb1⟩
     have C61 := c61 g hgk (x.getD (Z.getD (i : Int).toNat cg0).ix.toNat pa0) hpk1 (chk_one E3 hpm)
     have C62 := c62 g (by omega) (x.getD (Z.getD (i : Int).toNat cg0).ix.toNat pa0)
     have hgb : gateIx g (x.getD (Z.getD (i : Int).toNat cg0).ix.toNat pa0).gate < g.length := (ixF_bd (p := fun j => (g.getD j g0).key == (x.getD (Z.getD (i : Int).toNat cg0).ix.toNat pa0).gate) (n := g.length)).2.1
     have hdv : 0 ≤ (trueT g (x.getD (Z.getD (i : Int).toNat cg0).ix.toNat pa0)).tdiv 1440 ∧ (trueT g (x.getD (Z.getD (i : Int).toNat cg0).ix.toNat pa0)).tdiv 1440 ≤ 5761439 := by rw [Int.tdiv_eq_ediv_of_nonneg hoi.2.1]; omega
     have hday : inI64 ((trueT g (x.getD (Z.getD (i : Int).toNat cg0).ix.toNat pa0)).tdiv 1440) := by unfold inI64; omega
     have hsb := sumZ_bd (g := g) (l := x) hZb (Z.getD (i : Int).toNat cg0).hir (g.getD (gateIx g (x.getD (Z.getD (i : Int).toNat cg0).ix.toNat pa0).gate).toNat g0).area ((trueT g (x.getD (Z.getD (i : Int).toNat cg0).ix.toNat pa0)).tdiv 1440) i p1
     have har : (g.getD (gateIx g (x.getD (Z.getD (i : Int).toNat cg0).ix.toNat pa0).gate).toNat g0).area = (gateP g (x.getD (Z.getD (i : Int).toNat cg0).ix.toNat pa0)).area := by unfold gateP; rw [if_neg (by omega)]
     have hhit : (Z.getD i cg0).hir ≠ [] → sumZ g x Z (Z.getD (i : Int).toNat cg0).hir (g.getD (gateIx g (x.getD (Z.getD (i : Int).toNat cg0).ix.toNat pa0).gate).toNat g0).area ((trueT g (x.getD (Z.getD (i : Int).toNat cg0).ix.toNat pa0)).tdiv 1440) (i + 1) = sumZ g x Z (Z.getD (i : Int).toNat cg0).hir (g.getD (gateIx g (x.getD (Z.getD (i : Int).toNat cg0).ix.toNat pa0).gate).toNat g0).area ((trueT g (x.getD (Z.getD (i : Int).toNat cg0).ix.toNat pa0)).tdiv 1440) i + (Z.getD (i : Int).toNat cg0).cents := fun hne => by
      rw [sumZ, if_pos ⟨hne, by rw [e1], by rw [har, e1], by rw [e1]⟩, e1]
     have hcs : 0 ≤ C → (Z.getD i cg0).hir ≠ [] → sumZ g x Z (Z.getD (i : Int).toNat cg0).hir (g.getD (gateIx g (x.getD (Z.getD (i : Int).toNat cg0).ix.toNat pa0).gate).toNat g0).area ((trueT g (x.getD (Z.getD (i : Int).toNat cg0).ix.toNat pa0)).tdiv 1440) i + (Z.getD (i : Int).toNat cg0).cents ≤ C := fun hC hne => by
      rw [← hhit hne, hZ]
      exact cgR2_cap E hC (by rw [← hZ, e1]; exact hne) _ _ (by rw [← hZ]; omega)
     conv => whnf
     repeat' (first | (refine CallX.exact (c60 (dblIx D x x.length) (by omega) (Z.getD (i : Int).toNat cg0).ix) rfl rfl ?_; rotate_right; conv => whnf) | (refine CallX.exact (C61) rfl rfl ?_; rotate_right; conv => whnf) | (refine CallX.of C62 [(1000001, 16)] rfl ⟨lr, lr, trivial⟩ ⟨rr, trivial⟩ rfl rfl ?_; rintro y rout ⟨rfl, rfl⟩; refine ⟨rfl, ?_⟩; conv => whnf) | (refine And.intro hday ?_; conv => whnf) | (simp only [Nat.beq_refl, cond_true]; conv => whnf) | (refine ⟨rfl, ?_⟩; intro clock kb b2 hKB hkb; conv => whnf) | (refine ⟨_, _, ⟨hkb, rfl⟩, ?_⟩; conv => whnf) | (rw [kss, cond_true]; conv => whnf) | (refine br_intro ?_ ?_ <;> intro hb <;> (try simp only [brs] at hb) <;> conv => whnf) | (refine RegX.rule (id := 11) hT rfl [] oTCgH9_11 (by decide +kernel) ?_; conv => whnf) | (refine RegX.rule (id := 17) hT rfl [] oTCgH9_17 (by decide +kernel) ?_; conv => whnf) | (refine RegX.rule (id := 18) hT rfl [] oTCgH9_18 (by decide +kernel) ?_; conv => whnf) | (refine RegX.rule (id := 19) hT rfl [] oTCgH9_19 (by decide +kernel) ?_; conv => whnf) | omega | (refine And.intro ?_ ?_; ((try dsimp only); first | omega | (refine szA rfl ?_; omega) | (refine szB rfl ?_; omega) | (unfold inI64; omega) | exact rfl | (simp only [lns] at *; omega) | decide | (unfold inI64; decide)); conv => whnf) | decide | assumption)
     all_goals try (exfalso; omega)
     all_goals try (exfalso; first | omega | exact y3 hb)
     · have hk0 : (Z.getD i cg0).hir = [] := hb
       refine ⟨(i + 1, H), by show i + 1 ≤ Z.length; omega, by show Z.length - (i + 1) < Z.length - i; omega, Entails.mk' [(7, 7), (13, 13)] rfl rfl ⟨lr, lr, lr, lr, lr, lr, lr, lr, lr, lr, trivial⟩ ⟨rr, Res.le_map (fun key hkk => ?_), trivial⟩⟩
       obtain ⟨a, b, d, rfl⟩ := wk_ssi hkk
       refine ⟨rfl, ?_⟩
       show [DV.int .i64 (sumZ g x Z a b d i)] = [DV.int .i64 (sumZ g x Z a b d (i + 1))]
       rw [sumZ, if_neg (fun z => z.1 hk0), Int.add_zero]
     · exfalso
       rename_i hne hC0
       have := hcs hC0 hne
       simp only [e1] at this
       omega
     all_goals
      have hne : (Z.getD i cg0).hir ≠ [] := by assumption
      refine ⟨(i + 1, fun a b d => keyEq [.str a, .str b, .int .i64 d] [.str (Z.getD (i : Int).toNat cg0).hir, .str (g.getD (gateIx g (x.getD (Z.getD (i : Int).toNat cg0).ix.toNat pa0).gate).toNat g0).area, .int .i64 ((trueT g (x.getD (Z.getD (i : Int).toNat cg0).ix.toNat pa0)).tdiv 1440)] || H a b d), by show i + 1 ≤ Z.length; omega, by show Z.length - (i + 1) < Z.length - i; omega, Entails.mk' [(7, 7), (13, 13)] rfl rfl ⟨lr, lr, lr, lr, lr, lr, lr, lr, lr, lr, trivial⟩ ⟨rr, Res.le_map (fun key hkk => ?_), trivial⟩⟩
      obtain ⟨a, b, d, rfl⟩ := wk_ssi hkk
      refine ⟨rfl, ?_⟩
      show (bif keyEq [.str a, .str b, .int .i64 d] [.str (Z.getD (i : Int).toNat cg0).hir, .str (g.getD (gateIx g (x.getD (Z.getD (i : Int).toNat cg0).ix.toNat pa0).gate).toNat g0).area, .int .i64 ((trueT g (x.getD (Z.getD (i : Int).toNat cg0).ix.toNat pa0)).tdiv 1440)] then [DV.int .i64 (sumZ g x Z (Z.getD (i : Int).toNat cg0).hir (g.getD (gateIx g (x.getD (Z.getD (i : Int).toNat cg0).ix.toNat pa0).gate).toNat g0).area ((trueT g (x.getD (Z.getD (i : Int).toNat cg0).ix.toNat pa0)).tdiv 1440) i + (Z.getD (i : Int).toNat cg0).cents)] else [DV.int .i64 (sumZ g x Z a b d i)]) = [DV.int .i64 (sumZ g x Z a b d (i + 1))]
      rw [keyEq_ssi]
      by_cases q : a = (Z.getD (i : Int).toNat cg0).hir ∧ b = (g.getD (gateIx g (x.getD (Z.getD (i : Int).toNat cg0).ix.toNat pa0).gate).toNat g0).area ∧ d = ((trueT g (x.getD (Z.getD (i : Int).toNat cg0).ix.toNat pa0)).tdiv 1440)
      · rw [decide_eq_true q, q.1, q.2.1, q.2.2, cond_true, hhit hne]
      · rw [decide_eq_false q, cond_false, sumZ, if_neg (fun z => q ⟨by rw [e1]; exact z.2.1.symm, by rw [har, e1]; exact z.2.2.1.symm, by rw [e1]; exact z.2.2.2.symm⟩), Int.add_zero]
   · have hiZ : i = Z.length := by omega
     conv => whnf
     repeat' (first | (refine CallX.exact (sReady) rfl rfl ?_; rotate_right; conv => whnf) | (refine br_intro ?_ ?_ <;> intro hb <;> (try simp only [brs] at hb) <;> conv => whnf) | (refine RegX.rule (id := 11) hT rfl [] oTCgH9_11 (by decide +kernel) ?_; conv => whnf) | (refine RegX.rule (id := 17) hT rfl [] oTCgH9_17 (by decide +kernel) ?_; conv => whnf) | (refine RegX.rule (id := 18) hT rfl [] oTCgH9_18 (by decide +kernel) ?_; conv => whnf) | (refine RegX.rule (id := 19) hT rfl [] oTCgH9_19 (by decide +kernel) ?_; conv => whnf) | omega | (refine And.intro ?_ ?_; ((try dsimp only); first | omega | (refine szA rfl ?_; omega) | (refine szB rfl ?_; omega) | (unfold inI64; omega) | exact rfl | (simp only [lns] at *; omega) | decide | (unfold inI64; decide)); conv => whnf) | decide | assumption)
     all_goals try (exfalso; omega)
     refine .ret _ ?_
     conv => whnf
     refine ⟨[], ⟨?_, rfl⟩, trivial⟩
     conv => lhs; whnf
 · rw [if_pos E] at C53
   generalize cgE f h g D C F x = e at C53 E
   rw [hf] at C53
   by_cases G : dblsE D C F g x = 0
   · rw [if_pos G, G] at C65
     repeat' (first | (refine CallX.freeze _ _ _ _ 10 121 15 _ _ rfl rfl ?_; refine CallX.freeze _ _ _ _ 20 124 2 _ _ rfl rfl ?_; refine CallX.freeze _ _ _ _ 30 126 3 _ _ rfl rfl ?_; refine CallX.pure C53 ⟨SV.le_agg ⟨lr, lr, lr, lr, trivial⟩, lr, lr, lr, lr, trivial⟩ rfl ?_; conv => whnf) | (refine CallX.exact (C65) rfl rfl ?_; rotate_right; conv => whnf) | (refine CallX.exact (sReady) rfl rfl ?_; rotate_right; conv => whnf) | (refine br_intro ?_ ?_ <;> intro hb <;> (try simp only [brs] at hb) <;> conv => whnf) | (refine RegX.rule (id := 11) hT rfl [] oTCgH9_11 (by decide +kernel) ?_; conv => whnf) | (refine RegX.rule (id := 17) hT rfl [] oTCgH9_17 (by decide +kernel) ?_; conv => whnf) | (refine RegX.rule (id := 18) hT rfl [] oTCgH9_18 (by decide +kernel) ?_; conv => whnf) | (refine RegX.rule (id := 19) hT rfl [] oTCgH9_19 (by decide +kernel) ?_; conv => whnf) | omega | (refine And.intro ?_ ?_; ((try dsimp only); first | omega | (refine szA rfl ?_; omega) | (refine szB rfl ?_; omega) | (unfold inI64; omega) | exact rfl | (simp only [lns] at *; omega) | decide | (unfold inI64; decide)); conv => whnf) | decide | assumption)
     refine .ret _ ?_
     conv => whnf
     refine ⟨[], ⟨?_, rfl⟩, trivial⟩
     conv => lhs; whnf
   · rw [if_neg G] at C65
     generalize dblsE D C F g x = de at C65
     repeat' (first | (refine CallX.freeze _ _ _ _ 10 121 15 _ _ rfl rfl ?_; refine CallX.freeze _ _ _ _ 20 124 2 _ _ rfl rfl ?_; refine CallX.freeze _ _ _ _ 30 126 3 _ _ rfl rfl ?_; refine CallX.pure C53 ⟨SV.le_agg ⟨lr, lr, lr, lr, trivial⟩, lr, lr, lr, lr, trivial⟩ rfl ?_; conv => whnf) | (refine CallX.exact (C65) rfl rfl ?_; rotate_right; conv => whnf) | (refine CallX.exact (sReady) rfl rfl ?_; rotate_right; conv => whnf) | (refine br_intro ?_ ?_ <;> intro hb <;> (try simp only [brs] at hb) <;> conv => whnf) | (refine RegX.rule (id := 11) hT rfl [] oTCgH9_11 (by decide +kernel) ?_; conv => whnf) | (refine RegX.rule (id := 17) hT rfl [] oTCgH9_17 (by decide +kernel) ?_; conv => whnf) | (refine RegX.rule (id := 18) hT rfl [] oTCgH9_18 (by decide +kernel) ?_; conv => whnf) | (refine RegX.rule (id := 19) hT rfl [] oTCgH9_19 (by decide +kernel) ?_; conv => whnf) | omega | (refine And.intro ?_ ?_; ((try dsimp only); first | omega | (refine szA rfl ?_; omega) | (refine szB rfl ?_; omega) | (unfold inI64; omega) | exact rfl | (simp only [lns] at *; omega) | decide | (unfold inI64; decide)); conv => whnf) | decide | assumption)
     refine .ret _ ?_
     conv => whnf
     refine ⟨[], ⟨?_, rfl⟩, trivial⟩
     conv => lhs; whnf
end Go.Proofs.YtcjfniddeibbhaaGreatDoor
