/- ChargesMade is proved: for every input the law returns true, and its argument reads afterwards as it read before. Conditions: those of the given row alone. -/
import Derived.Test.YtcjfniddeibbhaaGreatDoorCmConOne
import Derived.Test.YtcjfniddeibbhaaGreatDoorCmConTri
import Derived.Shelf.GgSortFunc.InsertionK
import Derived.Shelf.SlSortCmp.NoneTotal
import Derived.Shelf.SlicesG.Cmp
import Derived.Test.YtcjfniddeibbhaaGreatDoorProg
import Derived.Test.YtcjfniddeibbhaaGreatDoorCmConTwo
set_option linter.unusedVariables false
set_option linter.unusedSimpArgs false
set_option maxRecDepth 20000
namespace Go.Proofs.YtcjfniddeibbhaaGreatDoor
open Go Go.Eng
theorem s130 (D C F : Int) (l : List Pas) (hl : l.length ≤ 1000) (hp : ∀ p ∈ l, 0 ≤ p.tm ∧ p.tm ≤ 5761439) :
 FSpec Tryz.prog 127 [.agg [.d (.int .i64 D), .d (.int .i64 C), .d (.int .i64 F)], .d (pass l)] [] (fun x r => x = .d (seqD 1 bF false (fillA false (dblB D l) l.length l.length)) ∧ r = []) := by
 refine spec_of hT (C := []) Tryz.func127 rfl Tryz.call127 rfl rfl rfl ?_
 conv => whnf
 repeat' (first | (refine br_intro ?_ ?_ <;> intro hb <;> (try simp only [brs] at hb) <;> conv => whnf) | omega | (refine And.intro ?_ ?_; ((try dsimp only); first | omega | (refine szA rfl ?_; omega) | (refine szB rfl ?_; omega) | (unfold inI64; omega) | exact rfl | (simp only [lns] at *; omega) | decide | (unfold inI64; decide)); conv => whnf) | decide | assumption)
 refine LoopX.rule hT (C := []) (ι := Nat) (fun i => i ≤ l.length) (fun i => mkSt [(2, .ptr 2 0), (5, .mp 5), (6, .buf 6), (16, .d (pass l)), (17, .d (.int .i64 l.length)), (18, .d (.int .i64 i))] [(2, .cells 95 [.d (.int .i64 D), .d (.int .i64 C), .d (.int .i64 F)]), (5, seenR (dblM D l i)), (6, seqB 4 1 bF false (fillA false (dblB D l) l.length i))]) (fun i => l.length - i) 0 (by omega) ?_ ?_
 · refine Entails.mk' [(2, 2), (5, 12), (6, 15)] rfl rfl ⟨lr, lr, lr, lr, lr, lr, trivial⟩ ⟨rr, Res.le_map (fun key hk => ?_), Res.le_buf (by rw [fillA_length]; rfl) (fun j hj => ?_), trivial⟩
   · obtain ⟨a, b, rfl⟩ := wk_ss hk
     exact ⟨rfl, rfl⟩
   · have hj : j < l.length := hj
     rw [rowF_lt (by rw [fillA_length]; exact hj)]
     simp [fillA, bF]
     rfl
 rintro i p1
 have e1 : (i : Int).toNat = i := Int.toNat_natCast i
 have hpi : (i : Int) < l.length → 0 ≤ (l.getD (i : Int).toNat pa0).tm ∧ (l.getD (i : Int).toNat pa0).tm ≤ 5761439 := fun hi => hp _ (getD_mem (by omega))
 have hlen : (fillA false (dblB D l) l.length i).length = l.length := fillA_length
 have hm : ∀ q, 0 ≤ (dblM D l i q).getD 0 ∧ (dblM D l i q).getD 0 ≤ 5761439 := fun q => by
  cases hq : dblM D l i q with
  | none => simp
  | some t => simpa using dblM_bd hp i p1 q t hq
 have hm0 := hm ((l.getD (i : Int).toNat pa0).plate, (l.getD (i : Int).toNat pa0).gate)
 conv => whnf
 repeat' (first | (refine And.intro (rfl : zrow _ = some [DV.int .i64 0]) ?_; conv => whnf) | (simp only [Nat.beq_refl, cond_true]; conv => whnf) | (refine br_intro ?_ ?_ <;> intro hb <;> (try simp only [brs] at hb) <;> conv => whnf) | omega | (refine And.intro ?_ ?_; ((try dsimp only); first | omega | (refine szA rfl ?_; omega) | (refine szB rfl ?_; omega) | (unfold inI64; omega) | exact rfl | (simp only [lns] at *; omega) | decide | (unfold inI64; decide)); conv => whnf) | decide | assumption)
 · rename_i hb1
   have hB : dblB D l i = false := by rw [dblB_eq, decide_eq_false (by omega), Bool.and_false]
   have hM : ∀ a b, dblM D l (i + 1) (a, b) = if a = (l.getD i pa0).plate ∧ b = (l.getD i pa0).gate then some (l.getD i pa0).tm else dblM D l i (a, b) := fun a b => by
    rw [dblM, if_neg (by show ¬ dblB D l i = true; rw [hB]; simp)]
    simp [Prod.ext_iff]
   refine ⟨i + 1, by omega, by omega, Entails.mk' [(2, 2), (5, 5), (6, 6)] rfl rfl ⟨lr, lr, lr, lr, lr, lr, trivial⟩ ⟨rr, Res.le_map (fun key hk => ?_), ?_, trivial⟩⟩
   · obtain ⟨a, b, rfl⟩ := wk_ss hk
     rw [e1]
     simp only [keyEq, keyEq1, Bool.and_true, mHas, mVal, hM]
     by_cases hab : a = (l.getD i pa0).plate ∧ b = (l.getD i pa0).gate
     · rw [if_pos hab, hab.1, hab.2]; simp
     · rw [if_neg hab]
       have : (a == (l.getD i pa0).plate && b == (l.getD i pa0).gate) = false := by
        cases hq : (a == (l.getD i pa0).plate && b == (l.getD i pa0).gate) with
        | false => rfl
        | true => simp at hq; exact absurd hq hab
       rw [this]; simp
   · rw [← fillA_set' (x := false) hB.symm]
     first
      | exact Res.le_putF (fun y _ => rfl)
      | (refine Res.le_putF (x := false) (fun y _ => ?_)
         show [DV.bool _] = [DV.bool _]
         rw [e1]; simpa using hb)
 · rename_i hb1
   have hB : dblB D l i = true := by rw [dblB_eq, decide_eq_true hb, Bool.and_true]; exact hb1
   refine ⟨i + 1, by omega, by omega, Entails.mk' [(2, 2), (5, 5), (6, 6)] rfl rfl ⟨lr, lr, lr, lr, lr, lr, trivial⟩ ⟨rr, ?_, ?_, trivial⟩⟩
   · have : dblM D l (i + 1) = dblM D l i := by rw [dblM]; exact if_pos hB
     rw [this]; exact rr
   · rw [← fillA_set' (x := decide ((l.getD (i : Int).toNat pa0).tm - (dblM D l i ((l.getD (i : Int).toNat pa0).plate, (l.getD (i : Int).toNat pa0).gate)).getD 0 < D)) (by rw [hB, e1]; simpa using hb)]
     exact Res.le_putF (fun y _ => rfl)
 · have hB : dblB D l i = false := by
    rw [dblB_eq, Bool.and_eq_false_iff]; exact .inl hb
   have hM : ∀ a b, dblM D l (i + 1) (a, b) = if a = (l.getD i pa0).plate ∧ b = (l.getD i pa0).gate then some (l.getD i pa0).tm else dblM D l i (a, b) := fun a b => by
    rw [dblM, if_neg (by show ¬ dblB D l i = true; rw [hB]; simp)]
    simp [Prod.ext_iff]
   refine ⟨i + 1, by omega, by omega, Entails.mk' [(2, 2), (5, 5), (6, 6)] rfl rfl ⟨lr, lr, lr, lr, lr, lr, trivial⟩ ⟨rr, Res.le_map (fun key hk => ?_), ?_, trivial⟩⟩
   · obtain ⟨a, b, rfl⟩ := wk_ss hk
     rw [e1]
     simp only [keyEq, keyEq1, Bool.and_true, mHas, mVal, hM]
     by_cases hab : a = (l.getD i pa0).plate ∧ b = (l.getD i pa0).gate
     · rw [if_pos hab, hab.1, hab.2]; simp
     · rw [if_neg hab]
       have : (a == (l.getD i pa0).plate && b == (l.getD i pa0).gate) = false := by
        cases hq : (a == (l.getD i pa0).plate && b == (l.getD i pa0).gate) with
        | false => rfl
        | true => simp at hq; exact absurd hq hab
       rw [this]; simp
   · rw [← fillA_set' (x := false) hB.symm]
     first
      | exact Res.le_putF (fun y _ => rfl)
      | (refine Res.le_putF (x := false) (fun y _ => ?_)
         show [DV.bool _] = [DV.bool _]
         rw [e1]; simpa using hb)
 · refine .freeze _ 6 4 1 _ _ rfl ?_
   have : i = l.length := by omega
   subst this
   refine .ret _ ?_
   conv => whnf
   refine ⟨[], ⟨?_, rfl⟩, trivial⟩
   conv => lhs; whnf
theorem s65 (g : List Gate) (D C F : Int) (l : List Pas) (hg : gOk g) (hl : pOk l) :
 FSpec Tryz.prog 59 [.d (gates g), .agg [.d (.int .i64 D), .d (.int .i64 C), .d (.int .i64 F)], .d (pass l)] [] (fun x r => x = .tup [.d (if dblsE D C F g l = 0 then ints (dblIx D l l.length) else .nilsl), .d (.int .i64 (dblsE D C F g l))] ∧ r = []) := by
 refine spec_of hT (C := []) Tryz.func59 rfl Tryz.call59 rfl rfl rfl ?_
 conv => whnf
 repeat' (first | (refine CallX.exact (s66 _ _ _) rfl rfl ?_; rotate_right; conv => whnf) | (refine CallX.exact (s90 g l hg hl) rfl rfl ?_; rotate_right; conv => whnf) | (refine CallX.pure (s105 [_, _] (by simp)) ⟨SV.le_lit (by rfl) (by rfl), trivial⟩ rfl ?_; conv => whnf) | (refine br_intro ?_ ?_ <;> intro hb <;> (try simp only [brs] at hb) <;> conv => whnf) | omega | (refine And.intro ?_ ?_; ((try dsimp only); first | omega | (refine szA rfl ?_; omega) | (refine szB rfl ?_; omega) | (unfold inI64; omega) | exact rfl | (simp only [lns] at *; omega) | decide | (unfold inI64; decide)); conv => whnf) | decide | assumption)
 · have hb : ¬ dblsE D C F g l = 0 := hb
   refine .ret _ ?_
   conv => whnf
   refine ⟨[], ⟨congrArg SV.tup ?_, rfl⟩, trivial⟩
   repeat' (refine cons_eq ?_ ?_)
   all_goals (conv => lhs; whnf)
   all_goals try (with_reducible rfl)
   · rw [if_neg hb]
   · rfl
 have hb : dblsE D C F g l = 0 := hb
 rw [hb]
 have hz : chkE g l = 0 := by simp only [dblsE, firstE] at hb; grind
 obtain ⟨⟨n1, n2⟩, n3, n4⟩ := chk_zero hz
 repeat' (first | (refine CallX.exact (s130 _ _ _ l n3 n4) rfl rfl ?_; rotate_right; conv => whnf) | (refine br_intro ?_ ?_ <;> intro hb <;> (try simp only [brs] at hb) <;> conv => whnf) | omega | (refine And.intro ?_ ?_; ((try dsimp only); first | omega | (refine szA rfl ?_; omega) | (refine szB rfl ?_; omega) | (unfold inI64; omega) | exact rfl | (simp only [lns] at *; omega) | decide | (unfold inI64; decide)); conv => whnf) | decide | assumption)
 refine LoopX.rule hT (C := []) (ι := Nat) (fun i => i ≤ l.length) (fun i => mkSt [(9, .buf 9), (24, .d (seqD 1 bF false (fillA false (dblB D l) l.length l.length))), (25, .d (.int .i64 l.length)), (26, .d (.int .i64 i))] [(9, seqB 3 1 iF 0 (dblIx D l i))]) (fun i => l.length - i) 0 (by omega) ?_ ?_
 · exact (Entails.nil 9 9 3 1 (rowF iF 0 []) rfl rfl (by decide)).trans (by (refine Entails.mk' [(9, 9)] rfl rfl ?_ ?_ <;> repeat' (first | exact True.intro | exact lr | exact rr | (refine SV.le_int ?_; rw [fillA_length]) | exact SV.le_int (by omega) | exact SV.le_any _ | refine And.intro ?_ ?_)); done)
 rintro i p1
 have e1 : (i : Int).toNat = i := Int.toNat_natCast i
 have hlen : (fillA false (dblB D l) l.length l.length).length = l.length := fillA_length
 have hdl := dblIx_len (D := D) (l := l) (n := i)
 conv => whnf
 repeat' (first | (refine br_intro ?_ ?_ <;> intro hb <;> (try simp only [brs] at hb) <;> conv => whnf) | omega | (refine And.intro ?_ ?_; ((try dsimp only); first | omega | (refine szA rfl ?_; omega) | (refine szB rfl ?_; omega) | (unfold inI64; omega) | exact rfl | (simp only [lns] at *; omega) | decide | (unfold inI64; decide)); conv => whnf) | decide | assumption)
 · rw [fillA_get (by omega)] at hb
   refine ⟨i + 1, by omega, by omega, Entails.mk' [(9, 35)] rfl rfl ⟨lr, lr, lr, lr, trivial⟩ ⟨?_, trivial⟩⟩
   rw [dblIx_succ, if_pos hb]; exact Res.le_snocF (by rfl)
 · rw [fillA_get (by omega)] at hb
   refine ⟨i + 1, by omega, by omega, Entails.mk' [(9, 9)] rfl rfl ⟨lr, lr, lr, lr, trivial⟩ ⟨?_, trivial⟩⟩
   rw [dblIx_succ, if_neg (by rw [hb]; simp), List.append_nil]; exact rr
 · have : i = l.length := by omega
   subst this
   refine .freeze _ 9 3 1 _ _ rfl ?_
   refine .ret _ ?_
   conv => whnf
   refine ⟨[], ⟨congrArg SV.tup ?_, rfl⟩, trivial⟩
   repeat' (refine cons_eq ?_ ?_)
   all_goals (conv => lhs; whnf)
   all_goals try (with_reducible rfl)
   rw [if_pos rfl]
theorem s24 : FSpec Tryz.prog 30 [] [] (fun x r => x = .d (.bool true) ∧ r = []) := by
 have h := s65 tolG 5 0 0 tolP ⟨by decide, by decide⟩ ⟨by decide, by decide⟩
 rw [tol_zero, if_pos rfl, tol_ix] at h
 refine spec_of hT (C := []) Tryz.func30 rfl Tryz.call30 rfl rfl rfl ?_
 conv => whnf
 repeat' (first | (refine CallX.pure h ⟨SV.le_lit (l := tolG) rfl rfl, lr, SV.le_lit (l := tolP) rfl rfl, trivial⟩ rfl ?_; conv => whnf) | (refine CallX.pure (s37 [1] [1] (by simp) (by simp)) ⟨lr, SV.le_lit rfl rfl, trivial⟩ rfl ?_; conv => whnf) | (refine br_intro ?_ ?_ <;> intro hb <;> (try simp only [brs] at hb) <;> conv => whnf) | omega | (refine And.intro ?_ ?_; ((try dsimp only); first | omega | (refine szA rfl ?_; omega) | (refine szB rfl ?_; omega) | (unfold inI64; omega) | exact rfl | (simp only [lns] at *; omega) | decide | (unfold inI64; decide)); conv => whnf) | decide | assumption)
 all_goals
  refine .ret _ ?_
  conv => whnf
  refine ⟨[], ⟨?_, rfl⟩, trivial⟩
  conv => lhs; whnf
  simp
theorem chk_on {g : List Gate} {l : List Pas} (h : chkE g l = 0) : ∀ j, j < l.length → 0 ≤ gateIx g (l.getD j pa0).gate ∧ 0 ≤ trueT g (l.getD j pa0) ∧ trueT g (l.getD j pa0) ≤ 5761439 := by
 unfold chkE at h
 have h0 : firstAt (onG g l) l.length = 0 := by
  split at h
  · exact absurd h (by assumption)
  · split at h
    · exact absurd h (by assumption)
    · exact h
 intro j hj
 have := firstAt_all h0 j hj
 unfold onG at this
 grind
theorem fltE_veh {f : Flt} (h : fltE f = 0) : ∀ j, j < f.veh.length → vehE1 f j = 0 := by
 unfold fltE at h
 have h0 : firstAt (vehE1 f) f.veh.length = 0 := by
  split at h
  · exact absurd h (by assumption)
  · split at h
    · exact absurd h (by assumption)
    · rename_i q; simpa using q
 exact firstAt_all h0
theorem plt_veh {f : Flt} (h : fltE f = 0) : ∀ e ∈ f.plt, e.veh ≠ [] := by
 intro e he q
 obtain ⟨j, hj, rfl⟩ := mem_getD (d := plt0) he
 have h1 := fltE_plt h j hj
 unfold pltE1 at h1
 have h2 : 0 ≤ veIx f.veh (f.plt.getD j plt0).veh := by grind
 have hb := ixF_bd (p := fun i => (f.veh.getD i veh0).key == (f.plt.getD j plt0).veh) (n := f.veh.length)
 have h3 := hb.2.2 h2
 have h4 := hb.2.1
 have h5 := fltE_veh h (ixF (fun i => (f.veh.getD i veh0).key == (f.plt.getD j plt0).veh) f.veh.length).toNat (by unfold veIx at h2; omega)
 unfold vehE1 at h5
 simp only [beq_iff_eq] at h3
 rw [h3, q] at h5
 rw [if_pos (by decide)] at h5
 cases h5
structure Cgx where
 hir : List UInt8
 veh : List UInt8
 ix : Int
 cents : Int
deriving DecidableEq
def cgF : Cgx → List DV := fun c => [.str c.hir, .str c.veh, .int .i64 c.ix, .int .i64 c.cents]
def cg0 : Cgx := ⟨[], [], 0, 0⟩
abbrev cgxs (l : List Cgx) : DV := seqD 4 cgF cg0 l
structure CgC where
 X : List Cgx
 tm : Nat → Int
 ar : Nat → List UInt8
 C : Int
def CgC.day (c : CgC) (k : Nat) : Int := (c.tm k).tdiv 1440
def CgC.x (c : CgC) (k : Nat) : Cgx := c.X.getD k cg0
def CgC.same (c : CgC) (o k : Nat) : Prop := (c.x o).hir = (c.x k).hir ∧ c.day o = c.day k ∧ c.ar o = c.ar k
def CgC.lex (c : CgC) (o k : Nat) : Prop := c.tm o < c.tm k ∨ c.tm o = c.tm k ∧ o < k
instance (c : CgC) (o k : Nat) : Decidable (c.same o k) := by unfold CgC.same; infer_instance
instance (c : CgC) (o k : Nat) : Decidable (c.lex o k) := by unfold CgC.lex; infer_instance
def CgC.bef (c : CgC) (k : Nat) : Nat → Int
 | 0 => 0
 | m + 1 => c.bef k m + (if c.same m k ∧ c.lex m k then (c.x m).cents else 0)
def CgC.cap (c : CgC) (k : Nat) : Int := if (c.x k).hir = [] then (c.x k).cents else max 0 (min (c.x k).cents (c.C - c.bef k c.X.length))
def CgC.capX (c : CgC) (k : Nat) : Cgx := { c.x k with cents := c.cap k }
def CgC.out (c : CgC) : List Cgx := (List.range c.X.length).map c.capX
structure CgC.Ok (c : CgC) : Prop where
 C0 : 0 ≤ c.C
 C1 : c.C ≤ 2^40
 len : c.X.length ≤ 1000
 cents : ∀ k, 0 ≤ (c.x k).cents ∧ (c.x k).cents ≤ 2^40
theorem CgC.bef_bd {c : CgC} (h : c.Ok) (k : Nat) : ∀ m, 0 ≤ c.bef k m ∧ c.bef k m ≤ 2^40 * m := by
 intro m
 induction m with
 | zero => exact ⟨Int.le_refl _, Int.le_refl _⟩
 | succ m ih =>
   rw [CgC.bef]
   have := h.cents m
   split <;> (push_cast; omega)
theorem CgC.bef_sum (c : CgC) (k : Nat) : ∀ m, c.bef k m = ((List.range m).map fun o => if c.same o k ∧ c.lex o k then (c.x o).cents else 0).sum := by
 intro m
 induction m with
 | zero => rfl
 | succ m ih => rw [CgC.bef, List.range_succ, List.map_append, List.sum_append, ih]; simp
structure CgC.Ord (c : CgC) (S : List Nat) : Prop where
 perm : S.Perm (List.range c.X.length)
 pw : S.Pairwise c.lex
theorem CgC.lex_irr (c : CgC) {o k : Nat} (h : c.lex o k) : ¬ c.lex k o := by unfold CgC.lex at *; omega
theorem perm_sum {S T : List Nat} (h : S.Perm T) (f : Nat → Int) : (S.map f).sum = (T.map f).sum := by
 induction h with
 | nil => rfl
 | cons x _ ih => simp [ih]
 | swap x y l => simp; omega
 | trans _ _ h1 h2 => rw [h1, h2]
theorem take_lex {c : CgC} : ∀ {S : List Nat} {j k : Nat}, S.Pairwise c.lex → S[j]? = some k → ∀ f : Nat → Int, ((S.take j).map f).sum = (S.map fun o => if c.lex o k then f o else 0).sum
 | [], j, k, _, h, _ => by simp at h
 | x :: S, 0, k, hp, h, f => by
   simp only [List.getElem?_cons_zero, Option.some.injEq] at h
   subst h
   rw [List.pairwise_cons] at hp
   have h0 : ∀ o ∈ x :: S, ¬ c.lex o x := by
    intro o ho
    rcases List.mem_cons.1 ho with rfl | q
    · unfold CgC.lex; omega
    · exact c.lex_irr (hp.1 o q)
   have : ((x :: S).map fun o => if c.lex o x then f o else 0) = (x :: S).map fun _ => 0 := List.map_congr_left fun o ho => if_neg (h0 o ho)
   rw [this]
   have hz : ∀ L : List Nat, (L.map fun _ => (0 : Int)).sum = 0 := fun L => by induction L with
    | nil => rfl
    | cons _ _ ih => rw [List.map_cons, List.sum_cons, ih]; rfl
   rw [hz]; rfl
 | x :: S, j + 1, k, hp, h, f => by
   rw [List.pairwise_cons] at hp
   have hk : S[j]? = some k := by simpa using h
   have hx : c.lex x k := hp.1 k (List.mem_of_getElem? hk)
   have ih := take_lex hp.2 hk f
   simp only [List.take_succ_cons, List.map_cons, List.sum_cons, ih, if_pos hx]
def CgC.paid (c : CgC) (S : List Nat) (a b : List UInt8) (d : Int) : Int := (S.map fun o => if (c.x o).hir = a ∧ c.day o = d ∧ c.ar o = b then (c.x o).cents else 0).sum
theorem CgC.paid_bef {c : CgC} {S : List Nat} (hS : c.Ord S) {j k : Nat} (hj : S[j]? = some k) : c.paid (S.take j) (c.x k).hir (c.ar k) (c.day k) = c.bef k c.X.length := by
 unfold CgC.paid
 rw [take_lex hS.pw hj, perm_sum hS.perm, c.bef_sum]
 congr 1
 refine List.map_congr_left fun o _ => ?_
 by_cases h : c.lex o k
 · simp [h, CgC.same]
 · simp [h]
theorem CgC.paid_snoc (c : CgC) {S : List Nat} {j k : Nat} (hj : S[j]? = some k) (a b : List UInt8) (d : Int) : c.paid (S.take (j + 1)) a b d = c.paid (S.take j) a b d + (if (c.x k).hir = a ∧ c.day k = d ∧ c.ar k = b then (c.x k).cents else 0) := by
 unfold CgC.paid
 rw [List.take_add_one, hj]
 simp
def CgC.pm (c : CgC) (S : List Nat) (a b : List UInt8) (d : Int) : Int := if a = [] then 0 else min c.C (c.paid S a b d)
theorem CgC.pm_nil {c : CgC} (h : c.Ok) (a b : List UInt8) (d : Int) : c.pm [] a b d = 0 := by
 unfold CgC.pm CgC.paid
 have := h.C0
 split
 · rfl
 · simp; omega
theorem CgC.pm_old {c : CgC} {S : List Nat} (hS : c.Ord S) {j k : Nat} (hj : S[j]? = some k) (hk : (c.x k).hir ≠ []) : c.pm (S.take j) (c.x k).hir (c.ar k) (c.day k) = min c.C (c.bef k c.X.length) := by
 unfold CgC.pm; rw [if_neg hk, c.paid_bef hS hj]
theorem CgC.cap_pm {c : CgC} (h : c.Ok) {S : List Nat} (hS : c.Ord S) {j k : Nat} (hj : S[j]? = some k) (hk : (c.x k).hir ≠ []) : c.cap k = min (c.x k).cents (c.C - c.pm (S.take j) (c.x k).hir (c.ar k) (c.day k)) := by
 rw [c.pm_old hS hj hk]
 unfold CgC.cap
 rw [if_neg hk]
 have := h.cents k
 have := c.bef_bd h k c.X.length
 have := h.C0
 omega
theorem CgC.pm_new {c : CgC} (h : c.Ok) {S : List Nat} (hS : c.Ord S) {j k : Nat} (hj : S[j]? = some k) (hk : (c.x k).hir ≠ []) (a b : List UInt8) (d : Int) :
 c.pm (S.take (j + 1)) a b d = if a = (c.x k).hir ∧ b = c.ar k ∧ d = c.day k then c.pm (S.take j) (c.x k).hir (c.ar k) (c.day k) + c.cap k else c.pm (S.take j) a b d := by
 by_cases q : a = (c.x k).hir ∧ b = c.ar k ∧ d = c.day k
 · rw [if_pos q, c.cap_pm h hS hj hk]
   obtain ⟨rfl, rfl, rfl⟩ := q
   have e := c.pm_old hS hj hk
   rw [e]
   unfold CgC.pm
   rw [if_neg hk, c.paid_snoc hj, c.paid_bef hS hj, if_pos ⟨rfl, rfl, rfl⟩]
   have := h.cents k
   have := c.bef_bd h k c.X.length
   have := h.C0
   omega
 · rw [if_neg q]
   unfold CgC.pm
   have z : ¬ ((c.x k).hir = a ∧ c.day k = d ∧ c.ar k = b) := fun z => q ⟨z.1.symm, z.2.2.symm, z.2.1.symm⟩
   rw [c.paid_snoc hj, if_neg z, Int.add_zero]
theorem CgC.pm_skip {c : CgC} {S : List Nat} {j k : Nat} (hj : S[j]? = some k) (hk : (c.x k).hir = []) (a b : List UInt8) (d : Int) : c.pm (S.take (j + 1)) a b d = c.pm (S.take j) a b d := by
 unfold CgC.pm
 by_cases q : a = []
 · rw [if_pos q, if_pos q]
 · rw [if_neg q, if_neg q, c.paid_snoc hj, if_neg (by rintro ⟨e, _, _⟩; exact q (e ▸ hk)), Int.add_zero]
theorem CgC.pm_bd {c : CgC} (h : c.Ok) (S : List Nat) (a b : List UInt8) (d : Int) : 0 ≤ c.pm S a b d ∧ c.pm S a b d ≤ 2^40 := by
 have h0 : 0 ≤ c.paid S a b d := by
  unfold CgC.paid
  induction S with
  | nil => exact Int.le_refl _
  | cons x S ih =>
    rw [List.map_cons, List.sum_cons]
    have := h.cents x
    split <;> omega
 have := h.C0
 have := h.C1
 unfold CgC.pm
 split
 · omega
 · omega
def CgC.part (c : CgC) (P : Nat → Prop) (L : List Cgx) : Prop := L.length = c.X.length ∧ ∀ k, (P k → k < c.X.length → L.getD k cg0 = c.capX k) ∧ (¬ P k → L.getD k cg0 = c.x k)
theorem CgC.part_none (c : CgC) {P : Nat → Prop} (h : ∀ k, ¬ P k) : c.part P c.X := ⟨rfl, fun k => ⟨fun q => absurd q (h k), fun _ => rfl⟩⟩
theorem getD_setC {M : List Cgx} {a j : Nat} {v : Cgx} : (M.set a v).getD j cg0 = if a = j ∧ j < M.length then v else M.getD j cg0 := by
 rw [List.getD_eq_getElem?_getD, List.getD_eq_getElem?_getD, List.getElem?_set]
 by_cases h : a = j
 · subst h
   by_cases h2 : a < M.length
   · simp [h2]
   · simp [h2]
 · simp [h]
theorem CgC.part_set {c : CgC} {P Q : Nat → Prop} {L : List Cgx} (h : c.part P L) {k : Nat} (hk : k < c.X.length) (hQ : ∀ o, Q o ↔ P o ∨ o = k) : c.part Q (L.set k (c.capX k)) := by
 refine ⟨by rw [List.length_set]; exact h.1, fun o => ?_⟩
 rw [getD_setC, h.1]
 by_cases e : k = o
 · subst e
   rw [if_pos ⟨rfl, hk⟩]
   exact ⟨fun _ _ => rfl, fun q => absurd ((hQ k).2 (.inr rfl)) q⟩
 · rw [if_neg (fun z => e z.1)]
   have h2 := h.2 o
   have hq : Q o ↔ P o := by rw [hQ]; exact ⟨fun z => z.resolve_right (fun w => e w.symm), .inl⟩
   rw [hq]
   exact h2
theorem CgC.capX_skip {c : CgC} {k : Nat} (hk : (c.x k).hir = []) : c.capX k = c.x k := by
 unfold CgC.capX CgC.cap; rw [if_pos hk]
theorem CgC.part_skip {c : CgC} {P Q : Nat → Prop} {L : List Cgx} (h : c.part P L) {k : Nat} (hk : (c.x k).hir = []) (hP : ¬ P k) (hQ : ∀ o, Q o ↔ P o ∨ o = k) : c.part Q L := by
 refine ⟨h.1, fun o => ?_⟩
 have h2 := h.2 o
 by_cases e : o = k
 · subst e
   exact ⟨fun _ _ => by rw [c.capX_skip hk]; exact h2.2 hP, fun _ => h2.2 hP⟩
 · have hq : Q o ↔ P o := by rw [hQ]; exact ⟨fun z => z.resolve_right e, .inl⟩
   rw [hq]; exact h2
theorem CgC.part_all {c : CgC} {P : Nat → Prop} {L : List Cgx} (h : c.part P L) (hP : ∀ k, k < c.X.length → P k) : L = c.out := by
 apply List.ext_getElem
 · unfold CgC.out; rw [h.1]; simp
 intro k hk hk'
 have hk2 : k < c.X.length := by rw [← h.1]; exact hk
 have := (h.2 k).1 (hP k hk2) hk2
 have e1 : L[k] = L.getD k cg0 := by rw [List.getD_eq_getElem?_getD, List.getElem?_eq_getElem hk]; rfl
 rw [e1, this]
 simp [CgC.out]
theorem CgC.part_same {c : CgC} {P : Nat → Prop} {L : List Cgx} (h : c.part P L) (k : Nat) (hk : k < c.X.length) : (L.getD k cg0).hir = (c.x k).hir ∧ (L.getD k cg0).ix = (c.x k).ix := by
 rcases Classical.em (P k) with q | q
 · rw [(h.2 k).1 q hk]; exact ⟨rfl, rfl⟩
 · rw [(h.2 k).2 q]; exact ⟨rfl, rfl⟩
structure DInv (T : Int) (s : HS) : Prop where
 pw : ∀ p, (s.out p).Pairwise fun a b => a.til ≤ b.frm
 ok : ∀ p, ∀ h ∈ s.out p, h.frm < h.til ∧ h.til ≤ T ∧ h.veh ≠ []
 lv : ∀ e ∈ s.live, e.veh ≠ [] ∧ ∀ h ∈ s.out e.plt, h.til ≤ e.frm
theorem DInv.mono {T U : Int} {s : HS} (h : DInv T s) (q : T ≤ U) : DInv U s :=
 ⟨h.pw, fun p x hx => by have := h.ok p x hx; exact ⟨this.1, by omega, this.2.2⟩, h.lv⟩
theorem DInv.drop {T : Int} {s : HS} (h : DInv T s) (p : List UInt8) : DInv T (hdrop s p T) := by
 cases hf : findP s.live p with
 | none =>
   have : hdrop s p T = s := by unfold hdrop; rw [hf]
   rw [this]; exact h
 | some e =>
   obtain ⟨e1, e2⟩ := findP_some hf
   have hl := hdrop_live s p T
   have ho : ∀ q, (hdrop s p T).out q = if q = p ∧ e.frm < T then s.out q ++ [⟨e.veh, e.frm, T⟩] else s.out q := by intro q; unfold hdrop; rw [hf]
   have he := h.lv e e1
   refine ⟨fun q => ?_, fun q x hx => ?_, fun x hx => ?_⟩
   · rw [ho]
     split
     · rename_i c
       rw [List.pairwise_append]
       refine ⟨h.pw q, List.pairwise_singleton _ _, fun a ha b hb => ?_⟩
       rw [List.mem_singleton] at hb; subst hb
       exact he.2 a (by rw [e2, ← c.1]; exact ha)
     · exact h.pw q
   · rw [ho] at hx
     split at hx
     · rename_i c
       rcases List.mem_append.1 hx with r | r
       · exact h.ok q x r
       · rw [List.mem_singleton] at r; subst r
         exact ⟨c.2, Int.le_refl _, he.1⟩
     · exact h.ok q x hx
   · rw [hl, List.mem_filter] at hx
     have hne : x.plt ≠ p := by simpa using hx.2
     refine ⟨(h.lv x hx.1).1, fun y hy => ?_⟩
     rw [ho, if_neg (by intro c; exact hne c.1)] at hy
     exact (h.lv x hx.1).2 y hy
theorem DInv.step {T : Int} {s : HS} (h : DInv T s) {x : Plt} (hx : x.frm = T) (hv : x.veh ≠ []) : DInv T (hstep s x) := by
 have h1 : DInv T (hmid s x) := by
  unfold hmid
  split
  · exact h
  · rw [hx]; exact h.drop _
 have h2 := h1.drop x.plt
 unfold hstep
 rw [hx]
 refine ⟨h2.pw, h2.ok, fun e he => ?_⟩
 rcases List.mem_append.1 he with q | q
 · exact h2.lv e q
 · rw [List.mem_singleton] at q; subst q
   exact ⟨hv, fun y hy => by rw [hx]; exact (h2.ok _ y hy).2.1⟩
theorem hall_d (l : List Plt) : srtP l → (∀ e ∈ l, e.veh ≠ []) → ∀ T, (∀ e ∈ l, e.frm ≤ T) → DInv T (hall l) := by
 refine snoc_ind (P := fun l => srtP l → (∀ e ∈ l, e.veh ≠ []) → ∀ T, (∀ e ∈ l, e.frm ≤ T) → DInv T (hall l)) ?_ ?_ l
 · intro _ _ T _
   exact ⟨fun p => List.Pairwise.nil, fun p h hh => (by cases hh), fun e he => (by cases he)⟩
 · intro l x ih hs hv T hT
   unfold srtP at hs
   rw [List.pairwise_append] at hs
   have h1 := ih hs.1 (fun e he => hv e (by simp [he])) x.frm (fun e he => hs.2.2 e he x (by simp))
   have h2 := h1.step rfl (hv x (by simp))
   have e : hall (l ++ [x]) = hstep (hall l) x := by unfold hall; rw [List.foldl_append]; rfl
   rw [e]
   exact h2.mono (hT x (by simp))
theorem hdrops_d {T : Int} : ∀ (m : List Plt) (s : HS), DInv T s → DInv T (m.foldl (fun s x => hdrop s x.plt T) s)
 | [], _, h => h
 | x :: m, s, h => hdrops_d m _ (h.drop x.plt)
theorem hend_d {f : Flt} (h : fltE f = 0) : DInv 5761440 (hend f.plt) := by
 have hm := fltE_mom h
 exact hdrops_d _ _ (hall_d f.plt (fltE_srt h).1 (plt_veh h) 5761440 fun e he => by have := hm e he; omega)
def hitT (t : Int) (w : Win) : Bool := decide (w.1 ≤ t) && decide (t < w.2)
def cutG (w : Hld) (g : Leg) : List Win := if g.veh = w.veh ∧ max g.out.tm w.frm < min (lastE g) w.til then [⟨max g.out.tm w.frm, min (lastE g) w.til⟩] else []
def cutHh (w : Hld) (h : Hir) : List Win := h.legs.flatMap (cutG w)
def cutHl (w : Hld) (l : List Hir) : List Win := l.flatMap (cutHh w)
def allW (o : List Hld) (l : List Hir) : List Win := o.flatMap fun w => cutHl w l
theorem allW_hit (o : List Hld) (l : List Hir) (t : Int) : (∃ w ∈ allW o l, hitT t w = true) ↔ ∃ w ∈ o, inH t w = true ∧ ∃ h ∈ l, occ w.veh h t = true := by
 unfold allW cutHl cutHh
 constructor
 · rintro ⟨w, hw, ht⟩
   rw [List.mem_flatMap] at hw
   obtain ⟨x, hx, hw⟩ := hw
   rw [List.mem_flatMap] at hw
   obtain ⟨h, hh, hw⟩ := hw
   rw [List.mem_flatMap] at hw
   obtain ⟨g, hg, hw⟩ := hw
   unfold cutG at hw
   split at hw
   · rename_i c
     rw [List.mem_singleton] at hw
     subst hw
     unfold hitT at ht
     simp only [Bool.and_eq_true, decide_eq_true_eq] at ht
     refine ⟨x, hx, ?_, h, hh, ?_⟩
     · unfold inH; simp only [Bool.and_eq_true, decide_eq_true_eq]; omega
     · unfold occ
       rw [List.any_eq_true]
       refine ⟨g, hg, ?_⟩
       unfold onL; simp only [Bool.and_eq_true, decide_eq_true_eq]
       exact ⟨c.1, by omega, by omega⟩
   · cases hw
 · rintro ⟨x, hx, hi, h, hh, ho⟩
   unfold occ at ho
   rw [List.any_eq_true] at ho
   obtain ⟨g, hg, ho⟩ := ho
   unfold onL at ho
   unfold inH at hi
   simp only [Bool.and_eq_true, decide_eq_true_eq] at ho hi
   refine ⟨⟨max g.out.tm x.frm, min (lastE g) x.til⟩, ?_, ?_⟩
   · refine List.mem_flatMap.2 ⟨x, hx, List.mem_flatMap.2 ⟨h, hh, List.mem_flatMap.2 ⟨g, hg, ?_⟩⟩⟩
     unfold cutG
     rw [if_pos ⟨ho.1, by omega⟩]
     exact List.mem_singleton.2 rfl
   · unfold hitT; simp only [Bool.and_eq_true, decide_eq_true_eq]; omega
theorem look_in {o : List Hld} (hp : o.Pairwise fun a b => a.til ≤ b.frm) (hk : ∀ h ∈ o, h.frm < h.til) {w : Hld} (hw : w ∈ o) {t : Int} (hi : inH t w = true) : lookV o t = w.veh := by
 induction o with
 | nil => cases hw
 | cons x o ih =>
   rw [List.pairwise_cons] at hp
   unfold lookV findH
   rw [List.find?_cons]
   cases hx : inH t x with
   | true =>
     rcases List.mem_cons.1 hw with rfl | q
     · rfl
     · have := hp.1 w q
       have := hk w (by simp [q])
       unfold inH at hx hi
       simp only [Bool.and_eq_true, decide_eq_true_eq] at hx hi
       omega
   | false =>
     rcases List.mem_cons.1 hw with rfl | q
     · rw [hi] at hx; cases hx
     · exact ih hp.2 (fun h hh => hk h (by simp [hh])) q
theorem hirIx_pos (l : List Hir) (v : List UInt8) (t : Int) : 0 ≤ hirIx l v t ↔ ∃ h ∈ l, occ v h t = true := by
 have hb := ixF_bd (p := fun i => occ v (l.getD i hi0) t) (n := l.length)
 have hf := ixF_first (p := fun i => occ v (l.getD i hi0) t) (n := l.length)
 unfold hirIx
 constructor
 · intro h
   exact ⟨_, getD_mem (by omega), hb.2.2 h⟩
 · rintro ⟨h, hh, ho⟩
   obtain ⟨j, hj, rfl⟩ := mem_getD (d := hi0) hh
   rcases Int.lt_or_le (ixF (fun i => occ v (l.getD i hi0) t) l.length) 0 with q | q
   · have := hf j hj (.inl (by omega))
     rw [ho] at this; cases this
   · exact q
theorem allW_own {f : Flt} {l : List Hir} (h : fltE f = 0) (p : List UInt8) (t : Int) : (∃ w ∈ allW ((hend f.plt).out p) l, hitT t w = true) ↔ 0 ≤ ownK ((hend f.plt).out p) l t := by
 have hd := hend_d h
 have hp := hd.pw p
 have hk := hd.ok p
 generalize (hend f.plt).out p = o at hp hk
 rw [allW_hit]
 unfold ownK
 constructor
 · rintro ⟨w, hw, hi, hh⟩
   have hl := look_in hp (fun h hh => (hk h hh).1) hw hi
   rw [hl, if_neg (hk w hw).2.2, hirIx_pos]
   exact hh
 · intro q
   by_cases c : lookV o t = []
   · rw [if_pos c] at q; omega
   · rw [if_neg c, hirIx_pos] at q
     unfold lookV findH at c
     cases hf : o.find? (inH t) with
     | none => rw [hf] at c; exact absurd rfl c
     | some w =>
       have h1 := List.find?_some hf
       have h2 := List.mem_of_find?_eq_some hf
       exact ⟨w, h2, h1, by rw [← look_in hp (fun h hh => (hk h hh).1) h2 h1]; exact q⟩
structure Mrg (S : List Win) (n : Nat) (out : List Win) : Prop where
 hit : ∀ t, (∃ w ∈ out, hitT t w = true) ↔ ∃ w ∈ S.take n, hitT t w = true
 pw : out.Pairwise fun a b => a.2 < b.1
 ok : ∀ w ∈ out, w.1 < w.2
 le : ∀ w ∈ out, ∀ x ∈ S.drop n, w.1 ≤ x.1
 len : out.length ≤ n
 bd : ∀ w ∈ out, 0 ≤ w.1 ∧ w.2 ≤ 5761440
theorem Mrg.nil (S : List Win) : Mrg S 0 [] := ⟨fun t => by simp, List.Pairwise.nil, by simp, by simp, by simp, by simp⟩
def cntW (t : Int) (W : List Win) : Nat := W.countP (hitT t)
theorem cntW_one {W : List Win} (hp : W.Pairwise fun a b => a.2 < b.1) (hk : ∀ w ∈ W, w.1 < w.2) (t : Int) : cntW t W = if ∃ w ∈ W, hitT t w = true then 1 else 0 := by
 unfold cntW
 induction W with
 | nil => simp
 | cons x W ih =>
   rw [List.pairwise_cons] at hp
   have ih := ih hp.2 (fun w hw => hk w (by simp [hw]))
   rw [List.countP_cons]
   cases hx : hitT t x with
   | true =>
     have h0 : ¬ ∃ w, w ∈ W ∧ hitT t w = true := by
      rintro ⟨w, hw, q⟩
      have h1 := hp.1 w hw
      have h2 := hk w (by simp [hw])
      unfold hitT at hx q
      simp only [Bool.and_eq_true, decide_eq_true_eq] at hx q
      omega
     rw [ih, if_neg h0, if_pos (⟨x, List.mem_cons_self, hx⟩ : ∃ w, w ∈ x :: W ∧ hitT t w = true)]
     rfl
   | false =>
     have h0 : (∃ w, w ∈ x :: W ∧ hitT t w = true) ↔ ∃ w, w ∈ W ∧ hitT t w = true := by
      constructor
      · rintro ⟨w, hw, q⟩
        rcases List.mem_cons.1 hw with e | e
        · rw [e, hx] at q; cases q
        · exact ⟨w, e, q⟩
      · rintro ⟨w, hw, q⟩
        exact ⟨w, List.mem_cons_of_mem _ hw, q⟩
     rw [ih]
     simp only [h0]
     rfl
structure IsM (o : List Hld) (h : List Hir) (W : List Win) : Prop where
 hit : ∀ t, (∃ w ∈ W, hitT t w = true) ↔ ∃ w ∈ allW o h, hitT t w = true
 pw : W.Pairwise fun a b => a.2 < b.1
 ok : ∀ w ∈ W, w.1 < w.2
 bd : ∀ w ∈ W, 0 ≤ w.1 ∧ w.2 ≤ 5761440
 len : W.length ≤ 2^31
end Go.Proofs.YtcjfniddeibbhaaGreatDoor
namespace Go.Eng
open Go Go.Proofs Go.Sort Go.RowKit
end Go.Eng
namespace Go.Proofs
open Go.Shelf
end Go.Proofs
set_option maxRecDepth 20000
namespace Go.Proofs.YtcjfniddeibbhaaGreatDoor
open Go Go.Eng
open Go.Sort Go.RowKit Go.Lib in
open Go.Sort Go.RowKit Go.Lib in
open Go.Sort Go.RowKit Go.Lib in
open Go.Sort Go.RowKit Go.Lib in
def fitK (O : List UInt8 → List Hld) (h : List Hir) (l : List Pas) (g : List UInt8) : Nat → Int → Int
 | 0, _ => 0
 | i + 1, c => fitK O h l g i c + (if (l.getD i pa0).gate = g ∧ 0 ≤ ownK (O (l.getD i pa0).plate) h ((l.getD i pa0).tm - c) then 1 else 0)
structure MI (k : Nat) (B : Int) (F : Int → Int) (M : List Int) : Prop where
 len : M.length = 2 * k + 2
 sum : ∀ c, -(k : Int) ≤ c → c ≤ k → (M.take (c + k + 1).toNat).sum = F c
 bd : ∀ j, -B ≤ M.getD j 0 ∧ M.getD j 0 ≤ B
theorem MI.mono {k : Nat} {B C : Int} {F G : Int → Int} {M : List Int} (h : MI k B F M) (hb : B ≤ C) (hF : ∀ c, -(k : Int) ≤ c → c ≤ k → F c = G c) : MI k C G M :=
 ⟨h.len, fun c c1 c2 => by rw [h.sum c c1 c2, hF c c1 c2], fun j => by have := h.bd j; omega⟩
theorem cntW_own {f : Flt} {h : List Hir} (hf : fltE f = 0) {p : List UInt8} {W : List Win} (hW : IsM ((hend f.plt).out p) h W) (t : Int) : (cntW t W : Int) = if 0 ≤ ownK ((hend f.plt).out p) h t then 1 else 0 := by
 have h1 := allW_own (l := h) hf p t
 rw [cntW_one hW.pw hW.ok]
 simp only [hW.hit t, h1]
 split <;> rfl
theorem MI.done {f : Flt} {h : List Hir} (hf : fltE f = 0) {k : Nat} {B : Int} {l : List Pas} {g : List UInt8} {i : Nat} {M : List Int} {W : List Win} {j : Nat} (hg : (l.getD i pa0).gate = g) (hW : IsM ((hend f.plt).out (l.getD i pa0).plate) h W) (hj : j = W.length)
 (q : MI k B (fun c => fitK (hend f.plt).out h l g i c + (cntW ((l.getD i pa0).tm - c) (W.take j) : Int)) M) : MI k B (fitK (hend f.plt).out h l g (i + 1)) M := by
 refine q.mono (Int.le_refl _) fun c _ _ => ?_
 subst hj
 rw [List.take_length, cntW_own hf hW, fitK]
 simp only [hg, true_and]
theorem MI.pass {O : List UInt8 → List Hld} {h : List Hir} {k : Nat} {B : Int} {l : List Pas} {g : List UInt8} {i : Nat} {M : List Int} (hg : (l.getD i pa0).gate ≠ g) (q : MI k B (fitK O h l g i) M) : MI k B (fitK O h l g (i + 1)) M := by
 refine q.mono (Int.le_refl _) fun c _ _ => ?_
 rw [fitK, if_neg (fun z => hg z.1)]; omega
theorem le_zer {n : Int} {m : Nat} (h : n.toNat = m) : Res.le (.buf 3 1 n.toNat fun _ => [cstD (.int .i64 0)]) (seqB 3 1 iF 0 (List.replicate m 0)) := by
 subst h
 exact Res.le_zeros
def cgx (f : Flt) (h : List Hir) (g : List Gate) (l : List Pas) (i : Nat) : Cgx := ⟨ownR f.plt h (l.getD i pa0).plate (trueT g (l.getD i pa0)), wearV f.plt (l.getD i pa0).plate (trueT g (l.getD i pa0)), i, (l.getD i pa0).cents⟩
def cgL (f : Flt) (h : List Hir) (g : List Gate) (D : Int) (l : List Pas) (n : Nat) : List Cgx := ((List.range n).filter fun i => !dblB D l i).map (cgx f h g l)
theorem cgL_succ (f : Flt) (h : List Hir) (g : List Gate) (D : Int) (l : List Pas) (n : Nat) : cgL f h g D l (n + 1) = cgL f h g D l n ++ (if dblB D l n = true then [] else [cgx f h g l n]) := by
 unfold cgL
 rw [List.range_succ, List.filter_append, List.map_append]
 congr 1
 cases q : dblB D l n <;> simp [q]
theorem cgL_len (f : Flt) (h : List Hir) (g : List Gate) (D : Int) (l : List Pas) (n : Nat) : (cgL f h g D l n).length ≤ n := by
 unfold cgL; rw [List.length_map]; exact Nat.le_trans (List.length_filter_le _ _) (by simp)
theorem cgL_get {f : Flt} {h : List Hir} {g : List Gate} {D : Int} {l : List Pas} {n k : Nat} (hk : k < (cgL f h g D l n).length) : ∃ i, i < n ∧ (cgL f h g D l n).getD k cg0 = cgx f h g l i := by
 have : (cgL f h g D l n).getD k cg0 ∈ cgL f h g D l n := getD_mem hk
 generalize (cgL f h g D l n).getD k cg0 = x at this
 unfold cgL at this
 rw [List.mem_map] at this
 obtain ⟨i, hi, e⟩ := this
 rw [List.mem_filter, List.mem_range] at hi
 exact ⟨i, hi.1, e.symm⟩
def cgC (f : Flt) (h : List Hir) (g : List Gate) (D C : Int) (l : List Pas) : CgC :=
 ⟨cgL f h g D l l.length, fun k => trueT g (l.getD ((cgL f h g D l l.length).getD k cg0).ix.toNat pa0), fun k => (gateP g (l.getD ((cgL f h g D l l.length).getD k cg0).ix.toNat pa0)).area, C⟩
def cgE (f : Flt) (h : List Hir) (g : List Gate) (D C F : Int) (l : List Pas) : Int := firstE [fltE f, hirsE h, tollE D C F, chkE g l]
theorem cgE_eq (f : Flt) (h : List Hir) (g : List Gate) (D C F : Int) (l : List Pas) : firstE [offE f h, tollE D C F, chkE g l] = cgE f h g D C F l := by
 unfold cgE offE
 simp only [firstE]
 grind
theorem cgE_zero {f : Flt} {h : List Hir} {g : List Gate} {D C F : Int} {l : List Pas} (q : cgE f h g D C F l = 0) : fltE f = 0 ∧ hirsE h = 0 ∧ chkE g l = 0 ∧ -1 ≤ C ∧ C ≤ 1000000 := by
 unfold cgE at q
 simp only [firstE] at q
 have hT : tollE D C F = 0 → -1 ≤ C ∧ C ≤ 1000000 := fun z => by unfold tollE at z; grind
 grind
def cgR2 (f : Flt) (h : List Hir) (g : List Gate) (D C : Int) (l : List Pas) : List Cgx := if C = -1 then cgL f h g D l l.length else (cgC f h g D C l).out
theorem form_cents {l : List Pas} (h : formE l = 0) : ∀ p ∈ l, 0 ≤ p.cents ∧ p.cents ≤ 1000000 := by
 unfold formE at h
 split at h
 · cases h
 intro p hp
 obtain ⟨j, hj, rfl⟩ := mem_getD (d := pa0) hp
 have := firstAt_all h j hj
 unfold pasE at this
 grind
theorem chk_form {g : List Gate} {l : List Pas} (h : chkE g l = 0) : formE l = 0 := by
 unfold chkE at h
 split at h
 · exact absurd h (by assumption)
 · split at h
   · exact absurd h (by assumption)
   · rename_i q; simpa using q
theorem cgL_ix {f : Flt} {h : List Hir} {g : List Gate} {D : Int} {l : List Pas} {n k : Nat} (hk : k < (cgL f h g D l n).length) : 0 ≤ ((cgL f h g D l n).getD k cg0).ix ∧ ((cgL f h g D l n).getD k cg0).ix < n ∧ ((cgL f h g D l n).getD k cg0).cents = (l.getD ((cgL f h g D l n).getD k cg0).ix.toNat pa0).cents := by
 obtain ⟨i, hi, e⟩ := cgL_get hk
 rw [e]
 refine ⟨?_, ?_, ?_⟩
 · show (0 : Int) ≤ (i : Int); omega
 · show (i : Int) < n; omega
 · show _ = (l.getD (i : Int).toNat pa0).cents
   rw [Int.toNat_natCast]; rfl
theorem cgC_ok {f : Flt} {h : List Hir} {g : List Gate} {D C F : Int} {l : List Pas} (E : cgE f h g D C F l = 0) (hC : C ≠ -1) : (cgC f h g D C l).Ok := by
 obtain ⟨E1, E2, E3, c1, c2⟩ := cgE_zero E
 have hl := (chk_zero E3).2.1
 have hc := form_cents (chk_form E3)
 refine ⟨?_, ?_, ?_, fun k => ?_⟩
 · show 0 ≤ C; omega
 · show C ≤ 2^40; omega
 · show (cgL f h g D l l.length).length ≤ 1000
   have := cgL_len f h g D l l.length; omega
 · show 0 ≤ ((cgL f h g D l l.length).getD k cg0).cents ∧ ((cgL f h g D l l.length).getD k cg0).cents ≤ 2^40
   rcases Nat.lt_or_ge k (cgL f h g D l l.length).length with q | q
   · obtain ⟨a, b, e⟩ := cgL_ix q
     rw [e]
     have := hc (l.getD ((cgL f h g D l l.length).getD k cg0).ix.toNat pa0) (getD_mem (by omega))
     omega
   · rw [List.getD_eq_getElem?_getD, List.getElem?_eq_none q]
     show 0 ≤ (0 : Int) ∧ (0 : Int) ≤ 2^40
     omega
def oTCgD134_3 : List (Nat × List Nat) := [(0, []), (1, [0]), (4, [0, 1]), (5, [0, 1]), (2, [4, 5]), (3, [4, 5]), (6, [4, 5]), (7, [])]
abbrev swM (m : Seen → Option Int) : Seen → Option Int := fun q => m (q.2, q.1)
theorem c133 (D C F : Int) (l : List Pas) (hl : l.length ≤ 1000) (hp : ∀ p ∈ l, 0 ≤ p.tm ∧ p.tm ≤ 5761439) :
 FSpec Tryz.prog 133 [.agg [.d (.int .i64 D), .d (.int .i64 C), .d (.int .i64 F)], .d (pass l)] [] (fun x r => x = .d (ints (dblIx D l l.length)) ∧ r = []) := by
 refine spec_of hT (C := []) Tryz.func133 rfl Tryz.call133 rfl rfl rfl ?_
 conv => whnf
 refine LoopX.rule hT (C := []) (ι := Nat) (fun i => i ≤ l.length) (fun i => mkSt [(2, .ptr 2 0), (5, .mp 5), (6, .buf 6), (13, .d (pass l)), (14, .d (.int .i64 l.length)), (15, .d (.int .i64 i))] [(2, .cells 95 [.d (.int .i64 D), .d (.int .i64 C), .d (.int .i64 F)]), (5, seenR (swM (dblM D l i))), (6, seqB 3 1 iF 0 (dblIx D l i))]) (fun i => l.length - i) 0 (by omega) ?_ ?_
 · refine (Entails.nil 6 6 3 1 (rowF iF 0 []) rfl rfl (by decide)).trans (Entails.mk' [(2, 2), (5, 12), (6, 6)] rfl rfl ⟨lr, lr, lr, lr, lr, lr, trivial⟩ ⟨rr, Res.le_map (fun key hk => ?_), rr, trivial⟩)
   obtain ⟨a, b, rfl⟩ := wk_ss hk
   exact ⟨rfl, rfl⟩
 rintro i p1
 have e1 : (i : Int).toNat = i := Int.toNat_natCast i
 have hpi : (i : Int) < l.length → 0 ≤ (l.getD (i : Int).toNat pa0).tm ∧ (l.getD (i : Int).toNat pa0).tm ≤ 5761439 := fun hi => hp _ (getD_mem (by omega))
 have hdl := dblIx_len (D := D) (l := l) (n := i)
 have hm : ∀ q, 0 ≤ (dblM D l i q).getD 0 ∧ (dblM D l i q).getD 0 ≤ 5761439 := fun q => by
  cases hq : dblM D l i q with
  | none => simp
  | some t => simpa using dblM_bd hp i p1 q t hq
 have hm0 : 0 ≤ (swM (dblM D l i) ((l.getD (i : Int).toNat pa0).gate, (l.getD (i : Int).toNat pa0).plate)).getD 0 ∧ (swM (dblM D l i) ((l.getD (i : Int).toNat pa0).gate, (l.getD (i : Int).toNat pa0).plate)).getD 0 ≤ 5761439 := hm ((l.getD (i : Int).toNat pa0).plate, (l.getD (i : Int).toNat pa0).gate)
 conv => whnf
 repeat' (first | (refine And.intro (rfl : zrow _ = some [DV.int .i64 0]) ?_; conv => whnf) | (simp only [Nat.beq_refl, cond_true]; conv => whnf) | (refine br_intro ?_ ?_ <;> intro hb <;> (try simp only [brs] at hb) <;> conv => whnf) | omega | (refine And.intro ?_ ?_; ((try dsimp only); first | omega | (refine szA rfl ?_; omega) | (refine szB rfl ?_; omega) | (unfold inI64; omega) | exact rfl | (simp only [lns] at *; omega) | decide | (unfold inI64; decide)); conv => whnf) | decide | assumption)
 · rename_i hb1
   have hB : dblB D l i = true := by rw [dblB_eq, decide_eq_true hb, Bool.and_true]; exact hb1
   refine ⟨i + 1, by omega, by omega, Entails.mk' [(2, 2), (5, 5), (6, 44)] rfl rfl ⟨lr, lr, lr, lr, lr, lr, trivial⟩ ⟨rr, ?_, ?_, trivial⟩⟩
   · have : dblM D l (i + 1) = dblM D l i := by rw [dblM]; exact if_pos hB
     rw [this]; exact rr
   · rw [dblIx_succ, if_pos hB]; exact Res.le_snocF (by rfl)
 · rename_i hb1
   have hB : dblB D l i = false := by rw [dblB_eq, decide_eq_false (Int.not_lt.2 hb), Bool.and_false]
   have hM : ∀ a b, swM (dblM D l (i + 1)) (a, b) = if a = (l.getD i pa0).gate ∧ b = (l.getD i pa0).plate then some (l.getD i pa0).tm else swM (dblM D l i) (a, b) := fun a b => by
    show dblM D l (i + 1) (b, a) = _
    rw [dblM, if_neg (by show ¬ dblB D l i = true; rw [hB]; simp)]
    simp [Prod.ext_iff, and_comm]
   refine ⟨i + 1, by omega, by omega, Entails.mk' [(2, 2), (5, 5), (6, 6)] rfl rfl ⟨lr, lr, lr, lr, lr, lr, trivial⟩ ⟨rr, Res.le_map (fun key hk => ?_), ?_, trivial⟩⟩
   · obtain ⟨a, b, rfl⟩ := wk_ss hk
     rw [e1]
     simp only [keyEq, keyEq1, Bool.and_true, mHas, mVal, hM]
     by_cases hab : a = (l.getD i pa0).gate ∧ b = (l.getD i pa0).plate
     · rw [if_pos hab, hab.1, hab.2]; simp
     · rw [if_neg hab]
       have : (a == (l.getD i pa0).gate && b == (l.getD i pa0).plate) = false := by
        cases hq : (a == (l.getD i pa0).gate && b == (l.getD i pa0).plate) with
        | false => rfl
        | true => simp at hq; exact absurd hq hab
       rw [this]; simp
   · rw [dblIx_succ, if_neg (by rw [hB]; simp), List.append_nil]; exact rr
 · have hB : dblB D l i = false := by
    rw [dblB_eq, Bool.and_eq_false_iff]; exact .inl hb
   have hM : ∀ a b, swM (dblM D l (i + 1)) (a, b) = if a = (l.getD i pa0).gate ∧ b = (l.getD i pa0).plate then some (l.getD i pa0).tm else swM (dblM D l i) (a, b) := fun a b => by
    show dblM D l (i + 1) (b, a) = _
    rw [dblM, if_neg (by show ¬ dblB D l i = true; rw [hB]; simp)]
    simp [Prod.ext_iff, and_comm]
   refine ⟨i + 1, by omega, by omega, Entails.mk' [(2, 2), (5, 5), (6, 6)] rfl rfl ⟨lr, lr, lr, lr, lr, lr, trivial⟩ ⟨rr, Res.le_map (fun key hk => ?_), ?_, trivial⟩⟩
   · obtain ⟨a, b, rfl⟩ := wk_ss hk
     rw [e1]
     simp only [keyEq, keyEq1, Bool.and_true, mHas, mVal, hM]
     by_cases hab : a = (l.getD i pa0).gate ∧ b = (l.getD i pa0).plate
     · rw [if_pos hab, hab.1, hab.2]; simp
     · rw [if_neg hab]
       have : (a == (l.getD i pa0).gate && b == (l.getD i pa0).plate) = false := by
        cases hq : (a == (l.getD i pa0).gate && b == (l.getD i pa0).plate) with
        | false => rfl
        | true => simp at hq; exact absurd hq hab
       rw [this]; simp
   · rw [dblIx_succ, if_neg (by rw [hB]; simp), List.append_nil]; exact rr
 · have : i = l.length := by omega
   subst this
   refine .freeze _ 6 3 1 _ _ rfl ?_
   refine .ret _ ?_
   conv => whnf
   refine ⟨[], ⟨?_, rfl⟩, trivial⟩
   conv => lhs; whnf
theorem c142 (l : List Int) (hl : l.length ≤ 2^40) (v : Int) : FSpec Tryz.prog 142 [.d (ints l), .d (.int .i64 v)] [] (fun x r => x = .d (.int .i64 (ixF (fun i => decide (v = l.getD i 0)) l.length)) ∧ r = []) := by
 refine spec_of hT (C := []) Tryz.func142 rfl Tryz.call142 rfl rfl rfl ?_
 conv => whnf
 repeat' (first | (refine br_intro ?_ ?_ <;> intro hb <;> (try simp only [brs] at hb) <;> conv => whnf) | omega | (refine And.intro ?_ ?_; ((try dsimp only); first | omega | (refine szA rfl ?_; omega) | (refine szB rfl ?_; omega) | (unfold inI64; omega) | exact rfl | (simp only [lns] at *; omega) | decide | (unfold inI64; decide)); conv => whnf) | decide | assumption)
 refine LoopX.rule hT (C := []) (ι := Nat) (fun i => i ≤ l.length ∧ ∀ j, j < i → decide (v = l.getD j 0) = false) (fun i => mkSt [(0, .d (ints l)), (1, .d (.int .i64 v)), (7, .d (.int .i64 l.length)), (8, .d (.int .i64 i))] []) (fun i => l.length - i) 0 ⟨by omega, by omega⟩ (by (refine Entails.mk' [] rfl rfl ?_ ?_ <;> repeat' (first | exact True.intro | exact lr | exact rr | exact SV.le_int (by omega) | exact SV.le_any _ | refine And.intro ?_ ?_)); done) ?_
 rintro i ⟨p1, p2⟩
 have e1 : (i : Int).toNat = i := Int.toNat_natCast i
 conv => whnf
 repeat' (first | (refine br_intro ?_ ?_ <;> intro hb <;> (try simp only [brs] at hb) <;> conv => whnf) | omega | (refine And.intro ?_ ?_; ((try dsimp only); first | omega | (refine szA rfl ?_; omega) | (refine szB rfl ?_; omega) | (unfold inI64; omega) | exact rfl | (simp only [lns] at *; omega) | decide | (unfold inI64; decide)); conv => whnf) | decide | assumption)
 · refine .ret _ ?_
   conv => whnf
   refine ⟨[], ⟨?_, rfl⟩, trivial⟩
   conv => lhs; whnf
   rw [ixF_hit (i := i) (by omega) p2 (by simpa using hb)]
 · exact ⟨i + 1, ⟨by omega, all_step p2 (by simpa using hb)⟩, by omega, (by (refine Entails.mk' [] rfl rfl ?_ ?_ <;> repeat' (first | exact True.intro | exact lr | exact rr | exact SV.le_int (by omega) | exact SV.le_any _ | refine And.intro ?_ ?_)); done)⟩
 · have : i = l.length := by omega
   subst this
   refine .ret _ ?_
   conv => whnf
   refine ⟨[], ⟨?_, rfl⟩, trivial⟩
   conv => lhs; whnf
   rw [ixF_none p2]
theorem c60 (l : List Int) (hl : l.length ≤ 2^40) (v : Int) : FSpec Tryz.prog 60 [.d (ints l), .d (.int .i64 v)] [] (fun x r => x = .d (.bool (decide (v ∈ l))) ∧ r = []) := by
 refine spec_of hT (C := []) Tryz.func60 rfl Tryz.call60 rfl rfl rfl ?_
 conv => whnf
 repeat' (first | (refine CallX.exact (c142 l hl v) rfl rfl ?_; rotate_right; conv => whnf) | (refine br_intro ?_ ?_ <;> intro hb <;> (try simp only [brs] at hb) <;> conv => whnf) | omega | (refine And.intro ?_ ?_; ((try dsimp only); first | omega | (refine szA rfl ?_; omega) | (refine szB rfl ?_; omega) | (unfold inI64; omega) | exact rfl | (simp only [lns] at *; omega) | decide | (unfold inI64; decide)); conv => whnf) | decide | assumption)
 refine .ret _ ?_
 conv => whnf
 refine ⟨[], ⟨?_, rfl⟩, trivial⟩
 conv => lhs; whnf
 have hb := ixF_bd (p := fun i => decide (v = l.getD i 0)) (n := l.length)
 congr 2
 rw [Bool.eq_iff_iff]
 simp only [decide_eq_true_eq]
 constructor
 · intro h
   have h2 := hb.2.2 h
   rw [decide_eq_true_eq] at h2
   rw [h2]
   exact getD_mem (by omega)
 · intro h
   obtain ⟨j, hj, e⟩ := mem_getD (d := (0 : Int)) h
   rcases Int.lt_or_le (ixF (fun i => decide (v = l.getD i 0)) l.length) 0 with q | q
   · have := ixF_first (p := fun i => decide (v = l.getD i 0)) (n := l.length) j hj (.inl (by omega))
     rw [e] at this; simp at this
   · exact q
theorem dbl_mem {D : Int} {l : List Pas} {i : Nat} (hi : i < l.length) : ((i : Int) ∈ dblIx D l l.length) ↔ dblB D l i = true := by
 unfold dblIx
 rw [List.mem_map]
 constructor
 · rintro ⟨j, hj, e⟩
   have : j = i := by omega
   subst this
   exact (List.mem_filter.1 hj).2
 · intro h
   exact ⟨i, List.mem_filter.2 ⟨List.mem_range.2 hi, h⟩, rfl⟩
theorem c134 (g : List Gate) (l : List Pas) (x : Cgx) (hg : g.length ≤ 2^40 ∧ ∀ y ∈ g, -2^40 ≤ y.clock ∧ y.clock ≤ 2^40) (hl : ∀ p ∈ l, -2^40 ≤ p.tm ∧ p.tm ≤ 2^40) (hx : 0 ≤ x.ix ∧ x.ix < l.length) (hd : inI64 (((l.getD x.ix.toNat pa0).tm - (gateP g (l.getD x.ix.toNat pa0)).clock).tdiv 1440)) (hcl : -2^40 ≤ (gateP g (l.getD x.ix.toNat pa0)).clock ∧ (gateP g (l.getD x.ix.toNat pa0)).clock ≤ 2^40) :
 FSpec Tryz.prog 134 [.agg ((cgF x).map .d), .ptr 1000009 0, .ptr 1000007 0] [(1000009, .cells 77 [.d (pass l)]), (1000007, .cells 75 [.d (gates g)])]
  (fun y r => y = .tup [.d (.int .i64 (((l.getD x.ix.toNat pa0).tm - (gateP g (l.getD x.ix.toNat pa0)).clock).tdiv 1440)), .d (.str (gateP g (l.getD x.ix.toNat pa0)).area)] ∧ r = [(1000009, .cells 77 [.d (pass l)]), (1000007, .cells 75 [.d (gates g)])]) := by
 have h1 := hl (l.getD x.ix.toNat pa0) (getD_mem (by omega))
 refine spec_of hT (C := []) Tryz.func134 rfl Tryz.call134 rfl rfl rfl ?_
 conv => whnf
 repeat' (first | (refine CallX.exact (s132 g hg.1 (l.getD x.ix.toNat pa0)) rfl rfl ?_; rotate_right; conv => whnf) | (refine CallX.exact (s94 g hg.1 (l.getD x.ix.toNat pa0) h1 hcl) rfl rfl ?_; rotate_right; conv => whnf) | (refine And.intro hd ?_; conv => whnf) | (refine br_intro ?_ ?_ <;> intro hb <;> (try simp only [brs] at hb) <;> conv => whnf) | (refine RegX.rule (id := 3) hT rfl [] oTCgD134_3 (by decide +kernel) ?_; conv => whnf) | omega | (refine And.intro ?_ ?_; ((try dsimp only); first | omega | (refine szA rfl ?_; omega) | (refine szB rfl ?_; omega) | (unfold inI64; omega) | exact rfl | (simp only [lns] at *; omega) | decide | (unfold inI64; decide)); conv => whnf) | decide | assumption)
 refine .ret _ ?_
 conv => whnf
 exact ⟨[(1000009, .cells 77 [.d (pass l)]), (1000007, .cells 75 [.d (gates g)])], ⟨rfl, rfl⟩, rr, rr, trivial⟩
def oTCgB128_1 : List (Nat × List Nat) := [(0, []), (1, [0]), (2, [0, 1]), (3, [0, 1, 2]), (4, [0, 1]), (5, [0, 1]), (6, [0, 1]), (7, [0]), (8, [0]), (9, []), (10, [])]
def oTCgB130_1 : List (Nat × List Nat) := [(0, []), (1, [0]), (3, [0, 1]), (4, [0, 1, 3]), (2, [3, 4]), (5, []), (6, []), (7, [])]
def oTCgB249_4 : List (Nat × List Nat) := [(0, []), (1, [0]), (2, []), (3, []), (4, []), (5, [4]), (6, [4, 5]), (7, [4]), (8, [4]), (9, [4, 5, 6, 7, 8]), (10, [4, 5, 6, 7, 8, 9]), (11, [4, 5, 6, 7, 8, 9]), (12, [4, 5, 6, 7, 8]), (13, [4, 5, 6, 7, 8]), (14, []), (15, []), (16, [])]
def oTCgB249_6 : List (Nat × List Nat) := [(0, []), (1, [0]), (2, [0, 1]), (3, [0, 1, 2]), (4, [0, 1, 2]), (5, [0, 1, 2, 3, 4]), (6, [0, 1, 2, 3, 4, 5]), (7, [0, 1, 2, 3, 4, 5]), (8, [0, 1, 2, 3, 4]), (9, [0, 1, 2, 3, 4]), (10, [0, 1, 2, 3, 4, 5, 6, 7, 8, 9]), (11, [0, 1, 2, 3, 4, 5, 6, 7, 8, 9, 10]), (12, [0, 1, 2, 3, 4, 5, 6, 7, 8, 9]), (13, [0, 1, 2, 3, 4, 5, 6, 7, 8, 9]), (14, [2, 3, 4]), (15, [2, 3, 4]), (16, []), (17, [])]
abbrev cgB (X : List Cgx) : Res := seqB 103 4 cgF cg0 X
def cgR (G : List Gate) (P : List Pas) (X : List Cgx) : List (Nat × Res) := [(1000021, .cells 118 [.fn 128 [.ptr 1000007 0, .ptr 1000009 0, .ptr 1000014 0]]), (1000007, .cells 75 [.d (gates G)]), (1000009, .cells 77 [.d (pass P)]), (1000014, .cells 97 [.buf 1000015]), (1000015, cgB X)]
def atK (G : List Gate) (P : List Pas) (X : List Cgx) (k : Int) : Int := trueT G (P.getD (X.getD k.toNat cg0).ix.toNat pa0)
theorem c128 (G : List Gate) (P : List Pas) (X : List Cgx) (hG : G.length ≤ 2^40 ∧ ∀ g ∈ G, -2^40 ≤ g.clock ∧ g.clock ≤ 2^40) (hP : ∀ p ∈ P, (-2^40 ≤ p.tm ∧ p.tm ≤ 2^40) ∧ 0 ≤ gateIx G p.gate) (k : Int) (hk : 0 ≤ k ∧ k < X.length) (hx : 0 ≤ (X.getD k.toNat cg0).ix ∧ (X.getD k.toNat cg0).ix < P.length) (hl : P.length ≤ 2^40) (hl2 : X.length ≤ 2^40) :
 FSpec Tryz.prog 128 [.d (.int .i64 k), .ptr 1000007 0, .ptr 1000009 0, .ptr 1000014 0] [(1000007, .cells 75 [.d (gates G)]), (1000009, .cells 77 [.d (pass P)]), (1000014, .cells 97 [.buf 1000015]), (1000015, cgB X)]
  (fun y r => y = .d (.int .i64 (atK G P X k)) ∧ r = [(1000007, .cells 75 [.d (gates G)]), (1000009, .cells 77 [.d (pass P)]), (1000014, .cells 97 [.buf 1000015]), (1000015, cgB X)]) := by
 have h1 := hP (P.getD (X.getD k.toNat cg0).ix.toNat pa0) (getD_mem (by omega))
 refine spec_of hT (C := []) Tryz.func128 rfl Tryz.call128 rfl rfl rfl ?_
 conv => whnf
 repeat' (first | (refine CallX.exact (s155 G hG.1 (P.getD (X.getD k.toNat cg0).ix.toNat pa0) h1.1 hG.2 h1.2) rfl rfl ?_; rotate_right; conv => whnf) | (refine br_intro ?_ ?_ <;> intro hb <;> (try simp only [brs] at hb) <;> conv => whnf) | (refine RegX.rule (id := 1) hT rfl [] oTCgB128_1 (by decide +kernel) ?_; conv => whnf) | omega | (refine And.intro ?_ ?_; ((try dsimp only); first | omega | (refine szA rfl ?_; omega) | (refine szB rfl ?_; omega) | (unfold inI64; omega) | exact rfl | (simp only [lns] at *; omega) | decide | (unfold inI64; decide)); conv => whnf) | decide | assumption)
 refine .ret _ ?_
 conv => whnf
 exact ⟨[(1000007, .cells 75 [.d (gates G)]), (1000009, .cells 77 [.d (pass P)]), (1000014, .cells 97 [.buf 1000015]), (1000015, cgB X)], ⟨rfl, rfl⟩, rr, rr, rr, rr, trivial⟩
theorem c130 (G : List Gate) (P : List Pas) (X : List Cgx) (hG : G.length ≤ 2^40 ∧ ∀ g ∈ G, -2^40 ≤ g.clock ∧ g.clock ≤ 2^40) (hP : ∀ p ∈ P, (-2^40 ≤ p.tm ∧ p.tm ≤ 2^40) ∧ 0 ≤ gateIx G p.gate) (hx : ∀ k, k < X.length → 0 ≤ (X.getD k cg0).ix ∧ (X.getD k cg0).ix < P.length) (hl : P.length ≤ 2^40) (hl2 : X.length ≤ 2^40)
 (p q : Int) (hp : 0 ≤ p ∧ p < X.length) (hq : 0 ≤ q ∧ q < X.length) :
 FSpec Tryz.prog 130 [.d (.int .i64 p), .d (.int .i64 q), .ptr 1000021 0] (cgR G P X) (fun y r => y = .d (.int .i64 (cmpI (atK G P X p) (atK G P X q))) ∧ r = cgR G P X) := by
 have h1 := hx p.toNat (by omega)
 have h2 := hx q.toNat (by omega)
 refine spec_of hT (C := []) Tryz.func130 rfl Tryz.call130 rfl rfl rfl ?_
 conv => whnf
 repeat' (first | (refine CallX.of (c128 G P X hG hP p hp h1 hl hl2) [(1000007, 1000007), (1000009, 1000009), (1000014, 1000014), (1000015, 1000015)] rfl ⟨lr, lr, lr, lr, trivial⟩ ⟨rr, rr, rr, rr, trivial⟩ rfl rfl ?_; rintro x rout ⟨rfl, rfl⟩; refine ⟨rfl, ?_⟩; conv => whnf) | (refine CallX.of (c128 G P X hG hP q hq h2 hl hl2) [(1000007, 1000007), (1000009, 1000009), (1000014, 1000014), (1000015, 1000015)] rfl ⟨lr, lr, lr, lr, trivial⟩ ⟨rr, rr, rr, rr, trivial⟩ rfl rfl ?_; rintro x rout ⟨rfl, rfl⟩; refine ⟨rfl, ?_⟩; conv => whnf) | (refine CallX.exact (s183 _ _) rfl rfl ?_; rotate_right; conv => whnf) | (refine br_intro ?_ ?_ <;> intro hb <;> (try simp only [brs] at hb) <;> conv => whnf) | (refine RegX.rule (id := 1) hT rfl [] oTCgB130_1 (by decide +kernel) ?_; conv => whnf) | omega | (refine And.intro ?_ ?_; ((try dsimp only); first | omega | (refine szA rfl ?_; omega) | (refine szB rfl ?_; omega) | (unfold inI64; omega) | exact rfl | (simp only [lns] at *; omega) | decide | (unfold inI64; decide)); conv => whnf) | decide | assumption)
 refine .ret _ ?_
 conv => whnf
 exact ⟨cgR G P X, ⟨rfl, rfl⟩, rr, rr, rr, rr, rr, trivial⟩
theorem swap_midI {A B : List Int} {x y : Int} {D b : List Int} {j : Nat} (hb : (y :: A).reverse ++ [x] ++ B ++ D = b) (hj : j = A.length + 1) :
 b.getD j 0 = x ∧ b.getD (j - 1) 0 = y ∧ (b.set j y).set (j - 1) x = A.reverse ++ [x] ++ (y :: B) ++ D := by
 subst hj
 refine ⟨?_, ?_, ?_⟩
 · rw [← hb, show (y :: A).reverse ++ [x] ++ B ++ D = (y :: A).reverse ++ x :: (B ++ D) by simp]
   exact getD_mid _ _ _ _ (by simp)
 · rw [← hb, show (y :: A).reverse ++ [x] ++ B ++ D = A.reverse ++ y :: ([x] ++ B ++ D) by simp]
   exact getD_mid _ _ _ _ (by simp)
 · rw [← hb]
   have := swap_lemma A.reverse (B ++ D) x y
   simp only [List.length_reverse] at this
   simp only [List.reverse_cons, List.append_assoc, List.singleton_append, List.cons_append, List.nil_append, Nat.add_sub_cancel] at this ⊢
   exact this
theorem c249 (G : List Gate) (P : List Pas) (X : List Cgx) (cmp : Int → Int → Int) (l : List Int) (hl : l.length ≤ 2^40)
 (hcmp : ∀ p q, p ∈ l → q ∈ l → FSpec Tryz.prog 130 [.d (.int .i64 p), .d (.int .i64 q), .ptr 1000021 0] (cgR G P X) (fun y r => y = .d (.int .i64 (cmp p q)) ∧ r = cgR G P X)) :
 FSpec Tryz.prog 249 [.buf 1000001, .d (.int .i64 0), .d (.int .i64 l.length), .fn 130 [.ptr 1000021 0]] ((1000001, seqB 3 1 iF 0 l) :: cgR G P X)
  (fun y r => y = .tup [] ∧ r = ((1000001, seqB 3 1 iF 0 (isort cmp l)) :: cgR G P X)) := by
 refine spec_of hT (C := []) Tryz.func249 rfl Tryz.call249 rfl rfl rfl ?_
 conv => whnf
 repeat' (first | (refine br_intro ?_ ?_ <;> intro hb <;> (try simp only [brs] at hb) <;> conv => whnf) | (refine RegX.rule (id := 4) hT rfl [] oTCgB249_4 (by decide +kernel) ?_; conv => whnf) | (refine RegX.rule (id := 6) hT rfl [] oTCgB249_6 (by decide +kernel) ?_; conv => whnf) | omega | (refine And.intro ?_ ?_; ((try dsimp only); first | omega | (refine szA rfl ?_; omega) | (refine szB rfl ?_; omega) | (unfold inI64; omega) | exact rfl | (simp only [lns] at *; omega) | decide | (unfold inI64; decide)); conv => whnf) | decide | assumption)
 refine LoopX.rule hT (C := []) (ι := Nat × List Int) (fun (i, c) => 1 ≤ i ∧ (i ≤ l.length ∨ i = 1) ∧ c = (isortR cmp (l.take i)).reverse ++ l.drop i)
  (fun (i, c) => mkSt [(0, .buf 1000001), (1, .d (.int .i64 0)), (2, .d (.int .i64 l.length)), (3, .fn 130 [.ptr 1000021 0]), (8, .d (.int .i64 i))] ((1000001, seqB 3 1 iF 0 c) :: cgR G P X))
  (fun (i, _) => l.length - i) (1, l) ⟨by simp, by simp, by cases l with | nil => rfl | cons x l => simp [isortR, insR]⟩ (by (refine Entails.mk' [(1000001, 1000001), (1000021, 1000021), (1000007, 1000007), (1000009, 1000009), (1000014, 1000014), (1000015, 1000015)] rfl rfl ?_ ?_ <;> repeat' (first | exact True.intro | exact lr | exact rr | exact SV.le_int (by omega) | exact SV.le_any _ | refine And.intro ?_ ?_)); done) ?_
 rintro ⟨i, c⟩ ⟨p1, p2, p3⟩
 conv => whnf
 repeat' (first | (refine br_intro ?_ ?_ <;> intro hb <;> (try simp only [brs] at hb) <;> conv => whnf) | (refine RegX.rule (id := 4) hT rfl [] oTCgB249_4 (by decide +kernel) ?_; conv => whnf) | (refine RegX.rule (id := 6) hT rfl [] oTCgB249_6 (by decide +kernel) ?_; conv => whnf) | omega | (refine And.intro ?_ ?_; ((try dsimp only); first | omega | (refine szA rfl ?_; omega) | (refine szB rfl ?_; omega) | (unfold inI64; omega) | exact rfl | (simp only [lns] at *; omega) | decide | (unfold inI64; decide)); conv => whnf) | decide | assumption)
 · have hi : i < l.length := by omega
   have hx : l[i] ∈ l := List.getElem_mem hi
   have hmem : ∀ y ∈ isortR cmp (l.take i), y ∈ l := fun y hy => List.mem_of_mem_take ((isortR_mem cmp _).1 hy)
   have hlr : (isortR cmp (l.take i)).length = i := by rw [isortR_length, List.length_take]; omega
   have hc : c = (isortR cmp (l.take i)).reverse ++ [l[i]] ++ [] ++ l.drop (i + 1) := by rw [p3, List.drop_eq_getElem_cons hi]; simp
   refine LoopX.rule hT (C := []) (ι := List Int × List Int × List Int) (fun (A, B, b) => insR cmp l[i] (isortR cmp (l.take i)) = B.reverse ++ insR cmp l[i] A ∧ A.length + B.length = i ∧ (∀ y ∈ A, y ∈ l) ∧ A.reverse ++ [l[i]] ++ B ++ l.drop (i + 1) = b)
    (fun (A, B, b) => mkSt [(0, .buf 1000001), (1, .d (.int .i64 0)), (2, .d (.int .i64 l.length)), (3, .fn 130 [.ptr 1000021 0]), (8, .d (.int .i64 i)), (9, .d (.int .i64 A.length))] ((1000001, seqB 3 1 iF 0 b) :: cgR G P X))
    (fun (A, _, _) => A.length) (isortR cmp (l.take i), [], c) ⟨by simp, by simpa using hlr, hmem, hc.symm⟩ ?_ ?_
   · exact Entails.mk' [(1000001, 1000001), (1000021, 1000021), (1000007, 1000007), (1000009, 1000009), (1000014, 1000014), (1000015, 1000015)] rfl rfl ⟨lr, lr, lr, lr, lr, SV.le_int (by omega), trivial⟩ ⟨rr, rr, rr, rr, rr, rr, trivial⟩
   rintro ⟨A, B, b⟩ ⟨q1, q2, q3, hbd⟩
   have hlen : b.length = l.length := by rw [← hbd]; simp; omega
   have hfin : A = [] ∨ (∃ y A', A = y :: A' ∧ 0 ≤ cmp l[i] y) → isortR cmp (l.take (i + 1)) = B.reverse ++ l[i] :: A ∧ b = (isortR cmp (l.take (i + 1))).reverse ++ l.drop (i + 1) := fun h => by
    have e : isortR cmp (l.take (i + 1)) = B.reverse ++ l[i] :: A := by
     rw [take_snoc hi, isortR_snoc, q1]
     rcases h with rfl | ⟨y, A', rfl, h⟩
     · rfl
     · rw [insR, if_neg (by omega)]
    exact ⟨e, by rw [e, ← hbd]; simp⟩
   conv => whnf
   repeat' (first | (refine br_intro ?_ ?_ <;> intro hb <;> (try simp only [brs] at hb) <;> conv => whnf) | (refine RegX.rule (id := 4) hT rfl [] oTCgB249_4 (by decide +kernel) ?_; conv => whnf) | (refine RegX.rule (id := 6) hT rfl [] oTCgB249_6 (by decide +kernel) ?_; conv => whnf) | omega | (refine And.intro ?_ ?_; ((try dsimp only); first | omega | (refine szA rfl ?_; omega) | (refine szB rfl ?_; omega) | (unfold inI64; omega) | exact rfl | (simp only [lns] at *; omega) | decide | (unfold inI64; decide)); conv => whnf) | decide | assumption)
   · cases A with
     | nil => simp at hb
     | cons y A =>
     obtain ⟨g1, g2, g3⟩ := swap_midI (j := (((y :: A).length : Int)).toNat) hbd (by simp)
     have ej : ((((y :: A).length : Int)) - 1).toNat = (((y :: A).length : Int)).toNat - 1 := by omega
     refine CallX.of (hcmp l[i] y hx (q3 y (by simp))) [(1000021, 1000021), (1000007, 1000007), (1000009, 1000009), (1000014, 1000014), (1000015, 1000015)] rfl ⟨by rw [← g1]; exact lr, by rw [← g2, ← ej]; exact lr, lr, trivial⟩ ⟨rr, rr, rr, rr, rr, trivial⟩ rfl rfl ?_
     rintro x rout ⟨rfl, rfl⟩
     refine ⟨rfl, ?_⟩
     conv => whnf
     repeat' (first | (refine br_intro ?_ ?_ <;> intro hb <;> (try simp only [brs] at hb) <;> conv => whnf) | (refine RegX.rule (id := 4) hT rfl [] oTCgB249_4 (by decide +kernel) ?_; conv => whnf) | (refine RegX.rule (id := 6) hT rfl [] oTCgB249_6 (by decide +kernel) ?_; conv => whnf) | omega | (refine And.intro ?_ ?_; ((try dsimp only); first | omega | (refine szA rfl ?_; omega) | (refine szB rfl ?_; omega) | (unfold inI64; omega) | exact rfl | (simp only [lns] at *; omega) | decide | (unfold inI64; decide)); conv => whnf) | decide | assumption)
     · refine ⟨(A, y :: B, _), ⟨by rw [q1]; simp [insR, hb], by simp only [List.length_cons] at q2 ⊢; omega, fun z hz => q3 z (by simp [hz]), ?_⟩, by show A.length < (y :: A).length; simp, Entails.mk' [(1000001, 1000001), (1000021, 1000021), (1000007, 1000007), (1000009, 1000009), (1000014, 1000014), (1000015, 1000015)] rfl rfl ⟨lr, lr, lr, lr, lr, SV.le_int (by simp only [List.length_cons]; omega), trivial⟩ ⟨Res.le_put2 (x := b.getD ((((y :: A).length : Int)) - 1).toNat 0) (y := b.getD (((y :: A).length : Int)).toNat 0) (fun _ => rfl) (fun _ => rfl), rr, rr, rr, rr, rr, trivial⟩⟩
       rw [← g3, ej, g1, g2]
     · obtain ⟨_, h2⟩ := hfin (.inr ⟨y, A, rfl, hb⟩)
       exact ⟨(i + 1, b), ⟨by omega, by omega, h2⟩, by show l.length - (i + 1) < l.length - i; omega, (by (refine Entails.mk' [(1000001, 1000001), (1000021, 1000021), (1000007, 1000007), (1000009, 1000009), (1000014, 1000014), (1000015, 1000015)] rfl rfl ?_ ?_ <;> repeat' (first | exact True.intro | exact lr | exact rr | exact SV.le_int (by omega) | exact SV.le_any _ | refine And.intro ?_ ?_)); done)⟩
   · have hA : A = [] := List.length_eq_zero_iff.1 (by omega)
     obtain ⟨_, h2⟩ := hfin (.inl hA)
     exact ⟨(i + 1, b), ⟨by omega, by omega, h2⟩, by show l.length - (i + 1) < l.length - i; omega, (by (refine Entails.mk' [(1000001, 1000001), (1000021, 1000021), (1000007, 1000007), (1000009, 1000009), (1000014, 1000014), (1000015, 1000015)] rfl rfl ?_ ?_ <;> repeat' (first | exact True.intro | exact lr | exact rr | exact SV.le_int (by omega) | exact SV.le_any _ | refine And.intro ?_ ?_)); done)⟩
 · refine .ret _ ?_
   conv => whnf
   have e1 : c = isort cmp l := by
    rw [p3, List.take_of_length_le (by omega), List.drop_eq_nil_iff.2 (by omega), List.append_nil]; rfl
   subst e1
   exact ⟨(1000001, seqB 3 1 iF 0 (isort cmp l)) :: cgR G P X, ⟨rfl, rfl⟩, rr, rr, rr, rr, rr, rr, trivial⟩
theorem c184 (G : List Gate) (P : List Pas) (X : List Cgx) (cmp : Int → Int → Int) (l : List Int) (hl : l.length < 20)
 (hcmp : ∀ p q, p ∈ l → q ∈ l → FSpec Tryz.prog 130 [.d (.int .i64 p), .d (.int .i64 q), .ptr 1000021 0] (cgR G P X) (fun y r => y = .d (.int .i64 (cmp p q)) ∧ r = cgR G P X)) :
 FSpec Tryz.prog 184 [.buf 1000001, .d (.int .i64 l.length), .fn 130 [.ptr 1000021 0]] ((1000001, seqB 3 1 iF 0 l) :: cgR G P X)
  (fun y r => y = .tup [] ∧ r = ((1000001, seqB 3 1 iF 0 (isort cmp l)) :: cgR G P X)) := by
 refine spec_of hT (C := []) Tryz.func184 rfl Tryz.call184 rfl rfl rfl ?_
 conv => whnf
 refine LoopX.rule hT (C := []) (ι := Unit) (fun _ => True) (fun _ => mkSt [(0, .buf 1000001), (1, .d (.int .i64 l.length)), (2, .fn 130 [.ptr 1000021 0]), (6, .d (.int .i64 20)), (7, .d (.int .i64 0)), (8, .d (.int .i64 20))] ((1000001, seqB 3 1 iF 0 l) :: cgR G P X)) (fun _ => 0) () trivial (by (refine Entails.mk' [(1000001, 1000001), (1000021, 1000021), (1000007, 1000007), (1000009, 1000009), (1000014, 1000014), (1000015, 1000015)] rfl rfl ?_ ?_ <;> repeat' (first | exact True.intro | exact lr | exact rr | exact SV.le_int (by omega) | exact SV.le_any _ | refine And.intro ?_ ?_)); done) ?_
 rintro ⟨⟩ -
 conv => whnf
 repeat' (first | (refine br_intro ?_ ?_ <;> intro hb <;> (try simp only [brs] at hb) <;> conv => whnf) | omega | (refine And.intro ?_ ?_; ((try dsimp only); first | omega | (refine szA rfl ?_; omega) | (refine szB rfl ?_; omega) | (unfold inI64; omega) | exact rfl | (simp only [lns] at *; omega) | decide | (unfold inI64; decide)); conv => whnf) | decide | assumption)
 refine CallX.of (c249 G P X cmp l (by omega) hcmp) [(1000001, 1000001), (1000021, 1000021), (1000007, 1000007), (1000009, 1000009), (1000014, 1000014), (1000015, 1000015)] rfl ⟨lr, lr, lr, lr, trivial⟩ ⟨rr, rr, rr, rr, rr, rr, trivial⟩ rfl rfl ?_
 rintro x rout ⟨rfl, rfl⟩
 refine ⟨rfl, ?_⟩
 conv => whnf
 refine LoopX.rule hT (C := []) (ι := Unit) (fun _ => True) (fun _ => mkSt [(0, .buf 1000001), (1, .d (.int .i64 l.length)), (2, .fn 130 [.ptr 1000021 0]), (6, .d (.int .i64 20))] ((1000001, seqB 3 1 iF 0 (isort cmp l)) :: cgR G P X)) (fun _ => 0) () trivial (by (refine Entails.mk' [(1000001, 1000001), (1000021, 1000021), (1000007, 1000007), (1000009, 1000009), (1000014, 1000014), (1000015, 1000015)] rfl rfl ?_ ?_ <;> repeat' (first | exact True.intro | exact lr | exact rr | exact SV.le_int (by omega) | exact SV.le_any _ | refine And.intro ?_ ?_)); done) ?_
 rintro ⟨⟩ -
 conv => whnf
 repeat' (first | (refine br_intro ?_ ?_ <;> intro hb <;> (try simp only [brs] at hb) <;> conv => whnf) | omega | (refine And.intro ?_ ?_; ((try dsimp only); first | omega | (refine szA rfl ?_; omega) | (refine szB rfl ?_; omega) | (unfold inI64; omega) | exact rfl | (simp only [lns] at *; omega) | decide | (unfold inI64; decide)); conv => whnf) | decide | assumption)
 refine .ret _ ?_
 conv => whnf
 exact ⟨(1000001, seqB 3 1 iF 0 (isort cmp l)) :: cgR G P X, ⟨rfl, rfl⟩, rr, rr, rr, rr, rr, rr, trivial⟩
theorem c129 (G : List Gate) (P : List Pas) (X : List Cgx) (cmp : Int → Int → Int) (l : List Int) (hl : l.length < 20)
 (hcmp : ∀ p q, p ∈ l → q ∈ l → FSpec Tryz.prog 130 [.d (.int .i64 p), .d (.int .i64 q), .ptr 1000021 0] (cgR G P X) (fun y r => y = .d (.int .i64 (cmp p q)) ∧ r = cgR G P X)) :
 FSpec Tryz.prog 129 [.buf 1000001, .fn 130 [.ptr 1000021 0]] ((1000001, seqB 3 1 iF 0 l) :: cgR G P X)
  (fun y r => y = .tup [] ∧ r = ((1000001, seqB 3 1 iF 0 (isort cmp l)) :: cgR G P X)) := by
 refine spec_of hT (C := []) Tryz.func129 rfl Tryz.call129 rfl rfl rfl ?_
 conv => whnf
 repeat' (first | (refine br_intro ?_ ?_ <;> intro hb <;> (try simp only [brs] at hb) <;> conv => whnf) | omega | (refine And.intro ?_ ?_; ((try dsimp only); first | omega | (refine szA rfl ?_; omega) | (refine szB rfl ?_; omega) | (unfold inI64; omega) | exact rfl | (simp only [lns] at *; omega) | decide | (unfold inI64; decide)); conv => whnf) | decide | assumption)
 refine CallX.of (c184 G P X cmp l hl hcmp) [(1000001, 1000001), (1000021, 1000021), (1000007, 1000007), (1000009, 1000009), (1000014, 1000014), (1000015, 1000015)] rfl ⟨lr, lr, lr, trivial⟩ ⟨rr, rr, rr, rr, rr, rr, trivial⟩ rfl rfl ?_
 rintro x rout ⟨rfl, rfl⟩
 refine ⟨rfl, ?_⟩
 conv => whnf
 refine .ret _ ?_
 conv => whnf
 exact ⟨(1000001, seqB 3 1 iF 0 (isort cmp l)) :: cgR G P X, ⟨rfl, rfl⟩, rr, rr, rr, rr, rr, rr, trivial⟩
def oTCgC53_1 : List (Nat × List Nat) := [(0, []), (1, [0]), (3, [0, 1]), (5, [0, 1, 3]), (6, [0, 1, 3, 5]), (2, [3, 5, 6]), (4, [5, 6]), (7, []), (8, []), (9, []), (10, [])]
def oTCgC53_10 : List (Nat × List Nat) := [(0, []), (1, [0]), (2, [0, 1]), (3, [0]), (4, [0]), (5, [0]), (6, [0, 1, 2, 3, 4, 5]), (7, [0, 1, 2, 3, 4, 5, 6]), (8, [0, 1, 2, 3, 4, 5, 6, 7]), (9, [0, 1, 2, 3, 4, 5, 6]), (10, [0, 1, 2, 3, 4, 5, 6]), (11, [0, 1, 2, 3, 4, 5]), (12, []), (13, []), (14, []), (15, [14]), (16, [15]), (17, [])]
def oTCgC53_11 : List (Nat × List Nat) := [(0, []), (1, [0]), (2, [0, 1]), (4, [0, 1, 2]), (5, [0, 1, 2, 4]), (6, [0, 1, 2, 4, 5]), (7, [0, 1, 2, 4, 5, 6]), (8, [0, 1, 2, 4, 5]), (9, [0, 1, 2, 4, 5]), (10, [0, 1, 2, 4, 5]), (3, [0, 4, 5, 6, 7, 8, 9, 10]), (11, [0]), (12, [0]), (13, []), (14, [])]
def oTCgC53_29 : List (Nat × List Nat) := [(0, []), (1, []), (2, []), (3, []), (4, [0, 1, 2, 3]), (5, [0, 1, 2, 3, 4]), (6, [0, 1, 2, 3, 4, 5]), (7, [0, 1, 2, 3, 4, 5, 6]), (8, [0, 1, 2, 3, 4, 5, 6]), (9, [0, 1, 2, 3, 4, 5, 6]), (10, [0, 1, 2, 3, 4, 5, 6]), (11, [0, 1, 2, 3, 4, 5]), (12, [0, 1, 2, 3, 4, 5]), (13, [0, 1, 2, 3, 4, 5]), (18, [0, 1, 2, 3, 4, 5, 6, 7, 8, 9, 10, 11, 12, 13]), (19, [0, 1, 2, 3, 4, 5, 6, 7, 8, 9, 10, 11, 12, 13, 18]), (23, [0, 1, 2, 3, 4, 5, 6, 7, 8, 9, 10, 11, 12, 13, 18, 19]), (14, [0, 1, 2, 3, 4, 18, 19, 23]), (15, [0, 1, 2, 3, 18, 19, 23]), (16, [0, 1, 2, 3, 18, 19, 23]), (17, [0, 1, 2, 3, 18, 19, 23]), (20, [0, 1, 2, 3, 4, 23, 15, 16, 17]), (21, [0, 1, 2, 3, 4, 23, 15, 16, 17]), (22, [23]), (24, [])]
def oTCgC53_30 : List (Nat × List Nat) := [(0, []), (1, [0]), (2, [0]), (3, [0]), (4, [0]), (5, [0, 1, 2, 3, 4]), (6, [0, 1, 2, 3, 4]), (7, [0, 1, 2, 3, 4, 5, 6]), (8, [0, 1, 2, 3, 4, 5, 6, 7]), (9, [0, 1, 2, 3, 4, 5, 6]), (10, [0, 1, 2, 3, 4]), (11, [0]), (12, []), (13, []), (14, [])]
def oTCgC53_31 : List (Nat × List Nat) := [(0, []), (1, [0]), (2, []), (3, [0, 1, 2]), (4, [0, 1, 2]), (5, [0, 1, 2]), (6, [0, 1, 2]), (7, []), (8, [2, 7]), (9, [2, 7]), (10, [])]
theorem wk_ssi {key : List DV} (h : wk [.str, .str, .int .i64] key = true) : ∃ a b d, key = [.str a, .str b, .int .i64 d] := by
 match key, h with
 | [.str a, .str b, .int k d], h =>
   have : IntKind.i64 = k := kEq_eq (by simpa [wk, wk1] using h)
   subst this
   exact ⟨a, b, d, rfl⟩
 | .str _ :: .str _ :: .int _ _ :: _ :: _, h => simp [wk] at h
def pHas (H : List UInt8 → List UInt8 → Int → Bool) : List DV → Bool
 | [.str a, .str b, .int _ d] => H a b d
 | _ => false
def pVal (V : List UInt8 → List UInt8 → Int → Int) : List DV → List DV
 | [.str a, .str b, .int _ d] => [.int .i64 (V a b d)]
 | _ => [.int .i64 0]
abbrev paidM (H : List UInt8 → List UInt8 → Int → Bool) (V : List UInt8 → List UInt8 → Int → Int) : Res := .map true false [.str, .str, .int .i64] [.int .i64 0] (pHas H) (pVal V)
theorem keyEq_ssi (a b a' b' : List UInt8) (d d' : Int) : keyEq [.str a, .str b, .int .i64 d] [.str a', .str b', .int .i64 d'] = decide (a = a' ∧ b = b' ∧ d = d') := by
 simp only [keyEq, keyEq1, Bool.and_true]
 rw [Bool.eq_iff_iff]
 simp
theorem Res.le_of_eq {a b : Res} (h : a = b) : Res.le a b := h ▸ Res.le_refl a
theorem Res.le_trans {a b c : Res} (h : Res.le a b) (k : Res.le b c) : Res.le a c := ⟨h.1.trans k.1, fun G β w d z => k.2 G β w d (h.2 G β w d z)⟩
theorem fillA_zero {n : Nat} {F : Nat → Int} : fillA 0 F n 0 = List.replicate n 0 := by
 unfold fillA
 exact List.ext_getElem (by simp) (fun i h1 h2 => by simp)
theorem fillI_mem {n : Nat} {p : Int} (h : p ∈ fillA 0 (fun k : Nat => (k : Int)) n n) : 0 ≤ p ∧ p < n := by
 unfold fillA at h
 rw [List.mem_map] at h
 obtain ⟨j, hj, rfl⟩ := h
 rw [List.mem_range] at hj
 rw [if_pos hj]
 show (0 : Int) ≤ (j : Int) ∧ (j : Int) < n
 omega
theorem ord_sort (c : CgC) (T : Int → Int) (hT : ∀ k : Nat, T k = c.tm k) : c.Ord ((isort (fun p q => cmpI (T p) (T q)) (fillA 0 (fun k : Nat => (k : Int)) c.X.length c.X.length)).map Int.toNat) := by
 have hf : fillA 0 (fun k : Nat => (k : Int)) c.X.length c.X.length = (List.range c.X.length).map fun k : Nat => (k : Int) := by
  unfold fillA
  exact List.map_congr_left fun j hj => by rw [List.mem_range] at hj; exact if_pos hj
 refine ⟨?_, ?_⟩
 · refine ((isort_perm _ _).map Int.toNat).trans ?_
   rw [hf, List.map_map]
   have : (Int.toNat ∘ fun k : Nat => (k : Int)) = id := by funext k; exact Int.toNat_natCast k
   rw [this, List.map_id]
 · rw [List.pairwise_map]
   have hp := isort_pairwise (fun p q : Int => cmpI (T p) (T q)) (fun p q : Int => c.lex p.toNat q.toNat) (fun a b d h1 h2 => by unfold CgC.lex at *; omega) (fillA 0 (fun k : Nat => (k : Int)) c.X.length c.X.length) ?_
   · exact hp
   · rw [hf, List.pairwise_map]
     refine List.Pairwise.imp ?_ (List.pairwise_lt_range)
     intro a b hab
     unfold cmpI CgC.lex
     simp only [hT, Int.toNat_natCast]
     refine ⟨fun z => ?_, fun z => ?_⟩
     · split at z
       · left; assumption
       · split at z <;> omega
     · split at z
       · omega
       · omega
theorem not_take {c : CgC} {S : List Nat} (hp : S.Pairwise c.lex) {j k : Nat} (hj : S[j]? = some k) : k ∉ S.take j := by
 intro h
 have hjl := (List.getElem?_eq_some_iff.1 hj).1
 have e : S.drop j = k :: S.drop (j + 1) := by
  rw [List.drop_eq_getElem_cons hjl]
  rw [List.getElem?_eq_getElem hjl] at hj
  cases hj; rfl
 rw [← List.take_append_drop j S, e, List.pairwise_append] at hp
 have := hp.2.2 k h k (by simp)
 unfold CgC.lex at this
 omega
set_option maxHeartbeats 8000000 in
theorem c53 (f : Flt) (hk : fltOk f) (h : List Hir) (hh : hiOk h) (hlg : ∀ x ∈ h, x.legs.length ≤ 2^40) (g : List Gate) (hg : gOk g) (D C F : Int) (l : List Pas) (hl : pOk l) (hn : l.length < 20) :
 FSpec Tryz.prog 53 [flt f, .d (hirs h), .d (gates g), .agg [.d (.int .i64 D), .d (.int .i64 C), .d (.int .i64 F)], .d (pass l)] [] (fun y r => y = (if cgE f h g D C F l ≠ 0 then .tup [.d .nilsl, .d (.int .i64 (cgE f h g D C F l))] else .tup [.d (cgxs (cgR2 f h g D C l)), .d (.int .i64 0)]) ∧ r = []) := by
 have h3 := s105 [offE f h, tollE D C F, chkE g l] (by simp)
 rw [cgE_eq] at h3
 have hhl : h.length ≤ 2^40 := hh.1
 refine spec_of hT (C := []) Tryz.func53 rfl Tryz.call53 rfl rfl rfl ?_
 conv => whnf
 repeat' (first | (refine CallX.exact (z72 f hk h hh) rfl rfl ?_; rotate_right; conv => whnf) | (refine CallX.exact (s66 D C F) rfl rfl ?_; rotate_right; conv => whnf) | (refine CallX.exact (s90 g l hg hl) rfl rfl ?_; rotate_right; conv => whnf) | (refine CallX.pure h3 ⟨SV.le_lit (by rfl) (by rfl), trivial⟩ rfl ?_; conv => whnf) | (refine br_intro ?_ ?_ <;> intro hb <;> (try simp only [brs] at hb) <;> conv => whnf) | (refine RegX.rule (id := 1) hT rfl [] oTCgC53_1 (by decide +kernel) ?_; conv => whnf) | (refine RegX.rule (id := 10) hT rfl [] oTCgC53_10 (by decide +kernel) ?_; conv => whnf) | (refine RegX.rule (id := 11) hT rfl [] oTCgC53_11 (by decide +kernel) ?_; conv => whnf) | (refine RegX.rule (id := 29) hT rfl [] oTCgC53_29 (by decide +kernel) ?_; conv => whnf) | (refine RegX.rule (id := 30) hT rfl [] oTCgC53_30 (by decide +kernel) ?_; conv => whnf) | (refine RegX.rule (id := 31) hT rfl [] oTCgC53_31 (by decide +kernel) ?_; conv => whnf) | omega | (refine And.intro ?_ ?_; ((try dsimp only); first | omega | (refine szA rfl ?_; omega) | (refine szB rfl ?_; omega) | (unfold inI64; omega) | exact rfl | (simp only [lns] at *; omega) | decide | (unfold inI64; decide)); conv => whnf) | decide | assumption)
 · refine .ret _ ?_
   conv => whnf
   refine ⟨[], ⟨?_, rfl⟩, trivial⟩
   rw [if_pos hb]
   rfl
 have E0 : cgE f h g D C F l = 0 := hb
 rw [if_neg (by omega)]
 obtain ⟨E1, E2, E3, c1, c2⟩ := cgE_zero E0
 have hon := chk_on E3
 obtain ⟨⟨n1, n2⟩, n3, n4⟩ := chk_zero E3
 obtain ⟨hs, hpl⟩ := fltE_srt E1
 obtain ⟨O, hO⟩ : ∃ O, O = (hend f.plt).out := ⟨_, rfl⟩
 have hOl : ∀ q, (O q).length ≤ 1000 := fun q => by rw [hO]; exact Nat.le_trans (hend_len _ _) hpl
 refine CallX.of (z73 f hpl hs h) [(6, 30)] rfl ⟨lr, lr, trivial⟩ trivial rfl rfl ?_
 rintro x rout ⟨rfl, rfl⟩
 refine ⟨rfl, ?_⟩
 rw [← hO]
 conv => whnf
 repeat' (first | (refine CallX.exact (s130 D C F l n3 n4) rfl rfl ?_; rotate_right; conv => whnf) | (refine br_intro ?_ ?_ <;> intro hb <;> (try simp only [brs] at hb) <;> conv => whnf) | (refine RegX.rule (id := 1) hT rfl [] oTCgC53_1 (by decide +kernel) ?_; conv => whnf) | (refine RegX.rule (id := 10) hT rfl [] oTCgC53_10 (by decide +kernel) ?_; conv => whnf) | (refine RegX.rule (id := 11) hT rfl [] oTCgC53_11 (by decide +kernel) ?_; conv => whnf) | (refine RegX.rule (id := 29) hT rfl [] oTCgC53_29 (by decide +kernel) ?_; conv => whnf) | (refine RegX.rule (id := 30) hT rfl [] oTCgC53_30 (by decide +kernel) ?_; conv => whnf) | (refine RegX.rule (id := 31) hT rfl [] oTCgC53_31 (by decide +kernel) ?_; conv => whnf) | omega | (refine And.intro ?_ ?_; ((try dsimp only); first | omega | (refine szA rfl ?_; omega) | (refine szB rfl ?_; omega) | (unfold inI64; omega) | exact rfl | (simp only [lns] at *; omega) | decide | (unfold inI64; decide)); conv => whnf) | decide | assumption)
 refine LoopX.rule hT (C := []) (ι := Nat) (fun i => i ≤ l.length) (fun i => mkSt [(7, .ptr 7 0), (8, .ptr 8 0), (9, .ptr 9 0), (13, .ptr 13 0), (14, .ptr 14 0), (45, .d (seqD 1 bF false (fillA false (dblB D l) l.length l.length))), (46, .d (.int .i64 l.length)), (47, .d (.int .i64 i))] [(7, .cells 75 [.d (gates g)]), (8, .cells 95 [.d (.int .i64 D), .d (.int .i64 C), .d (.int .i64 F)]), (9, .cells 77 [.d (pass l)]), (13, .cells 137 [.mp 30, .d (hirs h)]), (30, mF O), (14, .cells 97 [.buf 200]), (200, cgB (cgL f h g D l i))]) (fun i => l.length - i) 0 (by omega) ?_ ?_
 · refine (Entails.nilCell 14 200 103 4 0 (rowF cgF cg0 []) rfl rfl rfl (by decide) rfl).trans ?_
   exact Entails.mk' [(7, 7), (8, 8), (9, 9), (13, 13), (30, 30), (14, 14), (200, 200)] rfl rfl ⟨lr, lr, lr, lr, lr, lr, SV.le_int (by rw [fillA_length]), lr, trivial⟩ ⟨rr, rr, rr, rr, rr, rr, rr, trivial⟩
 intro i p1
 have e1 : (i : Int).toNat = i := Int.toNat_natCast i
 have hcl := cgL_len f h g D l i
 rcases Nat.lt_or_ge i l.length with hi | hi
 · have hc2 := n4 (l.getD (i : Int).toNat pa0) (getD_mem (by omega))
   have ho2 := hon i hi
   rw [← e1] at ho2
   have hfg : (fillA false (dblB D l) l.length l.length).getD (i : Int).toNat false = dblB D l i := by rw [e1]; exact fillA_get hi
   have hfl : (fillA false (dblB D l) l.length l.length).length = l.length := fillA_length
   have hbd := ownK_bd (O (l.getD (i : Int).toNat pa0).plate) h (trueT g (l.getD (i : Int).toNat pa0))
   have hw := look_wear E1 (by omega : trueT g (l.getD (i : Int).toNat pa0) < 5761440) (l.getD (i : Int).toNat pa0).plate
   have hown := own_key E1 E2 (by omega : trueT g (l.getD (i : Int).toNat pa0) < 5761440) (l.getD (i : Int).toNat pa0).plate
   rw [← hO] at hw hown
   conv => whnf
   repeat' (first | (refine CallX.exact (s155 g (by omega) (l.getD (i : Int).toNat pa0) ⟨by omega, by omega⟩ (fun x hx => by have := n2 x hx; omega) ho2.1) rfl rfl ?_; rotate_right; conv => whnf) | (refine CallX.of (z74 (fun p => !(O p).isEmpty) (fun p => vF (O p)) (O (l.getD (i : Int).toNat pa0).plate) h hhl hlg (l.getD (i : Int).toNat pa0).plate (trueT g (l.getD (i : Int).toNat pa0)) (Nat.le_trans (hOl _) (by decide)) (vF_or _)) [(1000001, 30)] rfl ⟨lr, lr, lr, trivial⟩ ⟨rr, trivial⟩ rfl rfl ?_; rintro x rout ⟨rfl, rfl⟩; refine ⟨rfl, ?_⟩; conv => whnf) | (refine CallX.of (z113 (fun p => !(O p).isEmpty) (fun p => vF (O p)) h (ownK (O (l.getD (i : Int).toNat pa0).plate) h (trueT g (l.getD (i : Int).toNat pa0))) hbd.2) [(1000001, 30)] rfl ⟨lr, lr, trivial⟩ ⟨rr, trivial⟩ rfl rfl ?_; rintro x rout ⟨rfl, rfl⟩; refine ⟨rfl, ?_⟩; conv => whnf) | (refine br_intro ?_ ?_ <;> intro hb <;> (try simp only [brs] at hb) <;> conv => whnf) | (refine RegX.rule (id := 1) hT rfl [] oTCgC53_1 (by decide +kernel) ?_; conv => whnf) | (refine RegX.rule (id := 10) hT rfl [] oTCgC53_10 (by decide +kernel) ?_; conv => whnf) | (refine RegX.rule (id := 11) hT rfl [] oTCgC53_11 (by decide +kernel) ?_; conv => whnf) | (refine RegX.rule (id := 29) hT rfl [] oTCgC53_29 (by decide +kernel) ?_; conv => whnf) | (refine RegX.rule (id := 30) hT rfl [] oTCgC53_30 (by decide +kernel) ?_; conv => whnf) | (refine RegX.rule (id := 31) hT rfl [] oTCgC53_31 (by decide +kernel) ?_; conv => whnf) | omega | (refine And.intro ?_ ?_; ((try dsimp only); first | omega | (refine szA rfl ?_; omega) | (refine szB rfl ?_; omega) | (unfold inI64; omega) | exact rfl | (simp only [lns] at *; omega) | decide | (unfold inI64; decide)); conv => whnf) | decide | assumption)
   · have hB : dblB D l i = true := by rw [← hfg]; exact hb
     refine ⟨i + 1, by omega, by omega, ?_⟩
     rw [cgL_succ, if_pos hB, List.append_nil]
     exact Entails.mk' [(7, 7), (8, 8), (9, 9), (13, 13), (30, 30), (14, 14), (200, 200)] rfl rfl ⟨lr, lr, lr, lr, lr, lr, lr, lr, trivial⟩ ⟨rr, rr, rr, rr, rr, rr, rr, trivial⟩
   · have hB : dblB D l i = false := by rw [← hfg]; exact hb
     have hkey : (if ownK (O (l.getD (i : Int).toNat pa0).plate) h (trueT g (l.getD (i : Int).toNat pa0)) < 0 then [] else (h.getD (ownK (O (l.getD (i : Int).toNat pa0).plate) h (trueT g (l.getD (i : Int).toNat pa0))).toNat hi0).key) = ownR f.plt h (l.getD (i : Int).toNat pa0).plate (trueT g (l.getD (i : Int).toNat pa0)) := by
      rcases hown with ⟨q1, q2⟩ | ⟨q1, q2, _, _⟩
      · rw [if_pos q1, q2]
      · rw [if_neg (by omega), q2]
     have hx : cgx f h g l i = ⟨if ownK (O (l.getD (i : Int).toNat pa0).plate) h (trueT g (l.getD (i : Int).toNat pa0)) < 0 then [] else (h.getD (ownK (O (l.getD (i : Int).toNat pa0).plate) h (trueT g (l.getD (i : Int).toNat pa0))).toNat hi0).key, lookV (O (l.getD (i : Int).toNat pa0).plate) (trueT g (l.getD (i : Int).toNat pa0)), i, (l.getD (i : Int).toNat pa0).cents⟩ := by
      rw [hkey, hw, e1]; rfl
     refine ⟨i + 1, by omega, by omega, ?_⟩
     have hcs : cgL f h g D l (i + 1) = cgL f h g D l i ++ [cgx f h g l i] := by rw [cgL_succ, if_neg (by rw [hB]; simp)]
     rw [hcs, hx]
     exact Entails.mk' [(7, 7), (8, 8), (9, 9), (13, 13), (30, 30), (14, 14), (200, 82)] rfl rfl ⟨lr, lr, lr, lr, lr, lr, lr, lr, trivial⟩ ⟨rr, rr, rr, rr, rr, rr, Res.le_snocF (by rfl), trivial⟩
 · have hil : i = l.length := by omega
   rw [hil]
   rw [hil] at hcl
   obtain ⟨X, hX⟩ : ∃ X, X = cgL f h g D l l.length := ⟨_, rfl⟩
   rw [← hX]
   rw [← hX] at hcl
   conv => whnf
   repeat' (first | (refine br_intro ?_ ?_ <;> intro hb <;> (try simp only [brs] at hb) <;> conv => whnf) | (refine RegX.rule (id := 1) hT rfl [] oTCgC53_1 (by decide +kernel) ?_; conv => whnf) | (refine RegX.rule (id := 10) hT rfl [] oTCgC53_10 (by decide +kernel) ?_; conv => whnf) | (refine RegX.rule (id := 11) hT rfl [] oTCgC53_11 (by decide +kernel) ?_; conv => whnf) | (refine RegX.rule (id := 29) hT rfl [] oTCgC53_29 (by decide +kernel) ?_; conv => whnf) | (refine RegX.rule (id := 30) hT rfl [] oTCgC53_30 (by decide +kernel) ?_; conv => whnf) | (refine RegX.rule (id := 31) hT rfl [] oTCgC53_31 (by decide +kernel) ?_; conv => whnf) | omega | (refine And.intro ?_ ?_; ((try dsimp only); first | omega | (refine szA rfl ?_; omega) | (refine szB rfl ?_; omega) | (unfold inI64; omega) | exact rfl | (simp only [lns] at *; omega) | decide | (unfold inI64; decide)); conv => whnf) | decide | assumption)
   all_goals try (exfalso; omega)
   · refine .freeze _ 200 103 4 _ _ rfl (.weak _ ?_)
     conv => whnf
     exact ⟨.tup [.d (cgxs X), .d (.int .i64 0)], [], SV.le_tup ⟨lr, lr, trivial⟩, ⟨by unfold cgR2; rw [if_pos hb, hX], rfl⟩, trivial⟩
   have hC : C ≠ -1 := hb
   refine LoopX.rule hT (C := []) (ι := Nat) (fun j => j ≤ X.length) (fun j => mkSt [(7, .ptr 7 0), (8, .ptr 8 0), (9, .ptr 9 0), (14, .ptr 14 0), (19, .buf 19), (92, .d (.int .i64 X.length)), (93, .d (.int .i64 j))] [(7, .cells 75 [.d (gates g)]), (8, .cells 95 [.d (.int .i64 D), .d (.int .i64 C), .d (.int .i64 F)]), (9, .cells 77 [.d (pass l)]), (14, .cells 97 [.buf 15]), (15, cgB X), (19, seqB 3 1 iF 0 (fillA 0 (fun k : Nat => (k : Int)) X.length j))]) (fun j => X.length - j) 0 (by omega) ?_ ?_
   · exact Entails.mk' [(7, 7), (8, 8), (9, 9), (14, 14), (15, 200), (19, 90)] rfl rfl ⟨lr, lr, lr, lr, lr, lr, lr, trivial⟩ ⟨rr, rr, rr, rr, rr, (by refine Res.le_trans (le_zer (m := X.length) ?_) (Res.le_of_eq (by rw [fillA_zero]; rfl)); exact Int.toNat_natCast _), trivial⟩
   intro j p2
   have e2 : (j : Int).toNat = j := Int.toNat_natCast j
   have hfl : (fillA 0 (fun k : Nat => (k : Int)) X.length j).length = X.length := fillA_length
   rcases Nat.lt_or_ge j X.length with hj | hj
   · conv => whnf
     repeat' (first | (refine br_intro ?_ ?_ <;> intro hb <;> (try simp only [brs] at hb) <;> conv => whnf) | (refine RegX.rule (id := 1) hT rfl [] oTCgC53_1 (by decide +kernel) ?_; conv => whnf) | (refine RegX.rule (id := 10) hT rfl [] oTCgC53_10 (by decide +kernel) ?_; conv => whnf) | (refine RegX.rule (id := 11) hT rfl [] oTCgC53_11 (by decide +kernel) ?_; conv => whnf) | (refine RegX.rule (id := 29) hT rfl [] oTCgC53_29 (by decide +kernel) ?_; conv => whnf) | (refine RegX.rule (id := 30) hT rfl [] oTCgC53_30 (by decide +kernel) ?_; conv => whnf) | (refine RegX.rule (id := 31) hT rfl [] oTCgC53_31 (by decide +kernel) ?_; conv => whnf) | omega | (refine And.intro ?_ ?_; ((try dsimp only); first | omega | (refine szA rfl ?_; omega) | (refine szB rfl ?_; omega) | (unfold inI64; omega) | exact rfl | (simp only [lns] at *; omega) | decide | (unfold inI64; decide)); conv => whnf) | decide | assumption)
     all_goals try (exfalso; omega)
     refine ⟨j + 1, by omega, by omega, Entails.mk' [(7, 7), (8, 8), (9, 9), (14, 14), (15, 15), (19, 19)] rfl rfl ⟨lr, lr, lr, lr, lr, lr, lr, trivial⟩ ⟨rr, rr, rr, rr, rr, ?_, trivial⟩⟩
     rw [← fillA_set' (x := (j : Int)) rfl]
     exact Res.le_putF (fun y _ => rfl)
   · have hjx : j = X.length := by omega
     rw [hjx]
     conv => whnf
     repeat' (first | (refine br_intro ?_ ?_ <;> intro hb <;> (try simp only [brs] at hb) <;> conv => whnf) | (refine RegX.rule (id := 1) hT rfl [] oTCgC53_1 (by decide +kernel) ?_; conv => whnf) | (refine RegX.rule (id := 10) hT rfl [] oTCgC53_10 (by decide +kernel) ?_; conv => whnf) | (refine RegX.rule (id := 11) hT rfl [] oTCgC53_11 (by decide +kernel) ?_; conv => whnf) | (refine RegX.rule (id := 29) hT rfl [] oTCgC53_29 (by decide +kernel) ?_; conv => whnf) | (refine RegX.rule (id := 30) hT rfl [] oTCgC53_30 (by decide +kernel) ?_; conv => whnf) | (refine RegX.rule (id := 31) hT rfl [] oTCgC53_31 (by decide +kernel) ?_; conv => whnf) | omega | (refine And.intro ?_ ?_; ((try dsimp only); first | omega | (refine szA rfl ?_; omega) | (refine szB rfl ?_; omega) | (unfold inI64; omega) | exact rfl | (simp only [lns] at *; omega) | decide | (unfold inI64; decide)); conv => whnf) | decide | assumption)
     all_goals try (exfalso; omega)
     have hXi : ∀ k, k < X.length → 0 ≤ (X.getD k cg0).ix ∧ (X.getD k cg0).ix < l.length := fun k hk => by
      rw [hX] at hk ⊢
      have := cgL_ix hk
      exact ⟨this.1, this.2.1⟩
     have hG : g.length ≤ 2^40 ∧ ∀ x ∈ g, -2^40 ≤ x.clock ∧ x.clock ≤ 2^40 := ⟨by omega, fun x hx => by have := n2 x hx; omega⟩
     have hP : ∀ p ∈ l, (-2^40 ≤ p.tm ∧ p.tm ≤ 2^40) ∧ 0 ≤ gateIx g p.gate := fun p hp => by
      obtain ⟨q, hq, rfl⟩ := mem_getD (d := pa0) hp
      have h1 := n4 _ hp
      exact ⟨by omega, (hon q hq).1⟩
     have hc129 := c129 g l X (fun p q => cmpI (atK g l X p) (atK g l X q)) (fillA 0 (fun k : Nat => (k : Int)) X.length X.length) (by rw [fillA_length]; omega) (fun p q hp hq => c130 g l X hG hP hXi (by omega) (by omega) p q (fillI_mem hp) (fillI_mem hq))
     obtain ⟨S, hS⟩ : ∃ S, S = isort (fun p q => cmpI (atK g l X p) (atK g l X q)) (fillA 0 (fun k : Nat => (k : Int)) X.length X.length) := ⟨_, rfl⟩
     rw [← hS] at hc129
     refine CallX.of hc129 [(1000001, 19), (1000021, 21), (1000007, 7), (1000009, 9), (1000014, 14), (1000015, 15)] rfl ⟨lr, lr, trivial⟩ ⟨rr, rr, rr, rr, rr, rr, trivial⟩ rfl rfl ?_
     rintro x rout ⟨rfl, rfl⟩
     refine ⟨rfl, ?_⟩
     conv => whnf
     repeat' (first | (refine br_intro ?_ ?_ <;> intro hb <;> (try simp only [brs] at hb) <;> conv => whnf) | (refine RegX.rule (id := 1) hT rfl [] oTCgC53_1 (by decide +kernel) ?_; conv => whnf) | (refine RegX.rule (id := 10) hT rfl [] oTCgC53_10 (by decide +kernel) ?_; conv => whnf) | (refine RegX.rule (id := 11) hT rfl [] oTCgC53_11 (by decide +kernel) ?_; conv => whnf) | (refine RegX.rule (id := 29) hT rfl [] oTCgC53_29 (by decide +kernel) ?_; conv => whnf) | (refine RegX.rule (id := 30) hT rfl [] oTCgC53_30 (by decide +kernel) ?_; conv => whnf) | (refine RegX.rule (id := 31) hT rfl [] oTCgC53_31 (by decide +kernel) ?_; conv => whnf) | omega | (refine And.intro ?_ ?_; ((try dsimp only); first | omega | (refine szA rfl ?_; omega) | (refine szB rfl ?_; omega) | (unfold inI64; omega) | exact rfl | (simp only [lns] at *; omega) | decide | (unfold inI64; decide)); conv => whnf) | decide | assumption)
     obtain ⟨c, hc⟩ : ∃ c, c = cgC f h g D C l := ⟨_, rfl⟩
     have hcX : c.X = X := by rw [hc, hX]; rfl
     have hct : ∀ k : Nat, atK g l X (k : Int) = c.tm k := fun k => by rw [hc]; unfold atK; rw [Int.toNat_natCast, hX]; rfl
     have hcC : c.C = C := by rw [hc]; rfl
     have hcok : c.Ok := by rw [hc]; exact cgC_ok E0 hC
     have hcO := ord_sort c (atK g l X) hct
     rw [hcX, ← hS] at hcO
     have hSl : S.length = X.length := by
      have := hcO.perm.length_eq
      rwa [List.length_map, List.length_range, hcX] at this
     have hSm : ∀ p ∈ S, 0 ≤ p ∧ p < X.length := fun p hp => by rw [hS] at hp; exact fillI_mem (by unfold isort at hp; rw [List.mem_reverse, isortR_mem] at hp; exact hp)
     refine LoopX.rule hT (C := []) (ι := Nat × List Cgx × (List UInt8 → List UInt8 → Int → Bool)) (fun (j, L, _) => j ≤ S.length ∧ c.part (fun k => k ∈ (S.map Int.toNat).take j) L)
      (fun (j, L, H) => mkSt [(7, .ptr 7 0), (8, .ptr 8 0), (9, .ptr 9 0), (14, .ptr 14 0), (21, .ptr 21 0), (22, .mp 22), (106, .buf 19), (107, .d (.int .i64 S.length)), (108, .d (.int .i64 j))] [(7, .cells 75 [.d (gates g)]), (8, .cells 95 [.d (.int .i64 D), .d (.int .i64 C), .d (.int .i64 F)]), (9, .cells 77 [.d (pass l)]), (14, .cells 97 [.buf 15]), (15, cgB L), (19, seqB 3 1 iF 0 S), (21, .cells 118 [.fn 128 [.ptr 7 0, .ptr 9 0, .ptr 14 0]]), (22, paidM H (c.pm ((S.map Int.toNat).take j)))])
      (fun (j, _) => S.length - j) (0, X, fun _ _ _ => false) ⟨Nat.zero_le _, by show c.part (fun k => k ∈ []) X; rw [← hcX]; exact c.part_none (fun k z => by cases z)⟩ ?_ ?_
     · exact Entails.mk' [(7, 7), (8, 8), (9, 9), (14, 14), (15, 15), (19, 19), (21, 21), (22, 105)] rfl rfl ⟨lr, lr, lr, lr, lr, lr, lr, lr, lr, trivial⟩ ⟨rr, rr, rr, rr, rr, rr, rr, Res.le_map (fun key hkk => by obtain ⟨a, b, d, rfl⟩ := wk_ssi hkk; refine ⟨rfl, ?_⟩; show [_] = [DV.int .i64 (c.pm [] a b d)]; rw [c.pm_nil hcok]; rfl), trivial⟩
     rintro ⟨j, L, H⟩ ⟨p3, hLp⟩
     have p3 : j ≤ S.length := p3
     have hLp : c.part (fun k => k ∈ (S.map Int.toNat).take j) L := hLp
     have e3 : (j : Int).toNat = j := Int.toNat_natCast j
     have hLl : L.length = X.length := by rw [hLp.1, hcX]
     rcases Nat.lt_or_ge j S.length with hj3 | hj3
     · have hkm := hSm (S.getD (j : Int).toNat 0) (getD_mem (by omega))
       obtain ⟨kn, hkn⟩ : ∃ kn : Nat, (S.getD (j : Int).toNat 0) = kn := ⟨(S.getD (j : Int).toNat 0).toNat, by omega⟩
       have hknl : kn < c.X.length := by rw [hcX]; omega
       have hSj : (S.map Int.toNat)[j]? = some kn := by
        rw [List.getElem?_map, List.getElem?_eq_getElem hj3]
        have : S[j] = (S.getD (j : Int).toNat 0) := by rw [e3]; simp [List.getD_eq_getElem?_getD, hj3]
        rw [this, hkn]; rfl
       have hts : ∀ o, o ∈ (S.map Int.toNat).take (j + 1) ↔ o ∈ (S.map Int.toNat).take j ∨ o = kn := fun o => by rw [List.take_add_one, hSj]; simp
       have hKn : (S.getD (j : Int).toNat 0).toNat = kn := by omega
       have hLk : (L.getD (S.getD (j : Int).toNat 0).toNat cg0) = c.x kn := by rw [hKn]; exact (hLp.2 kn).2 (not_take hcO.pw hSj)
       have hxk : c.x kn = X.getD kn cg0 := by unfold CgC.x; rw [hcX]
       have hix := hXi kn (by omega)
       rw [← hxk, ← hLk] at hix
       have hpk := hP (l.getD (L.getD (S.getD (j : Int).toNat 0).toNat cg0).ix.toNat pa0) (getD_mem (by omega))
       have hgb := (ixF_bd (p := fun i => (g.getD i g0).key == (l.getD (L.getD (S.getD (j : Int).toNat 0).toNat cg0).ix.toNat pa0).gate) (n := g.length)).2.1
       have hgb2 : gateIx g (l.getD (L.getD (S.getD (j : Int).toNat 0).toNat cg0).ix.toNat pa0).gate < g.length := hgb
       have hat : atK g l L (S.getD (j : Int).toNat 0) = c.tm kn := by rw [← hct kn]; unfold atK; rw [hLk, hxk, Int.toNat_natCast]
       have hat0 : 0 ≤ atK g l L (S.getD (j : Int).toNat 0) ∧ atK g l L (S.getD (j : Int).toNat 0) ≤ 5761439 := by
        have := hon (L.getD (S.getD (j : Int).toNat 0).toNat cg0).ix.toNat (by omega)
        exact this.2
       have hct0 : 0 ≤ (L.getD (S.getD (j : Int).toNat 0).toNat cg0).cents ∧ (L.getD (S.getD (j : Int).toNat 0).toNat cg0).cents ≤ 2^40 := by rw [hLk]; exact hcok.cents kn
       have har : (g.getD (gateIx g (l.getD (L.getD (S.getD (j : Int).toNat 0).toNat cg0).ix.toNat pa0).gate).toNat g0).area = c.ar kn := by
        rw [hc]
        show _ = (gateP g _).area
        unfold gateP
        rw [if_neg (by rw [← hX, ← hxk, ← hLk]; omega), ← hX, ← hxk, ← hLk]
       have hv := c.pm_bd hcok ((S.map Int.toNat).take j) (L.getD (S.getD (j : Int).toNat 0).toNat cg0).hir (g.getD (gateIx g (l.getD (L.getD (S.getD (j : Int).toNat 0).toNat cg0).ix.toNat pa0).gate).toNat g0).area ((atK g l L (S.getD (j : Int).toNat 0)).tdiv 1440)
       have hdv : 0 ≤ (atK g l L (S.getD (j : Int).toNat 0)).tdiv 1440 ∧ (atK g l L (S.getD (j : Int).toNat 0)).tdiv 1440 ≤ 5761439 := by rw [Int.tdiv_eq_ediv_of_nonneg hat0.1]; omega
       have hday : inI64 ((atK g l L (S.getD (j : Int).toNat 0)).tdiv 1440) := by unfold inI64; omega
       have hadd : inI64 (c.pm ((S.map Int.toNat).take j) (L.getD (S.getD (j : Int).toNat 0).toNat cg0).hir (g.getD (gateIx g (l.getD (L.getD (S.getD (j : Int).toNat 0).toNat cg0).ix.toNat pa0).gate).toNat g0).area ((atK g l L (S.getD (j : Int).toNat 0)).tdiv 1440) + bif false then max (L.getD (S.getD (j : Int).toNat 0).toNat cg0).cents (C - c.pm ((S.map Int.toNat).take j) (L.getD (S.getD (j : Int).toNat 0).toNat cg0).hir (g.getD (gateIx g (l.getD (L.getD (S.getD (j : Int).toNat 0).toNat cg0).ix.toNat pa0).gate).toNat g0).area ((atK g l L (S.getD (j : Int).toNat 0)).tdiv 1440)) else min (L.getD (S.getD (j : Int).toNat 0).toNat cg0).cents (C - c.pm ((S.map Int.toNat).take j) (L.getD (S.getD (j : Int).toNat 0).toNat cg0).hir (g.getD (gateIx g (l.getD (L.getD (S.getD (j : Int).toNat 0).toNat cg0).ix.toNat pa0).gate).toNat g0).area ((atK g l L (S.getD (j : Int).toNat 0)).tdiv 1440))) := by rw [cond_false]; unfold inI64; omega
       have h128 := c128 g l L hG hP (S.getD (j : Int).toNat 0) (by omega) hix (by omega) (by omega)
       conv => whnf
       repeat' (first | (refine CallX.exact (s153 g (by omega) (l.getD (L.getD (S.getD (j : Int).toNat 0).toNat cg0).ix.toNat pa0).gate) rfl rfl ?_; rotate_right; conv => whnf) | (refine CallX.look h128 [(1000007, 7), (1000009, 9), (1000014, 14), (1000015, 15)] rfl ⟨lr, lr, lr, lr, trivial⟩ ⟨⟨_, rfl, rfl⟩, ⟨_, rfl, rfl⟩, ⟨_, rfl, rfl⟩, ⟨_, rfl, rfl⟩, trivial⟩ rfl rfl rfl ?_; conv => whnf) | (refine And.intro hday ?_; conv => whnf) | (refine And.intro hadd ?_; conv => whnf) | (simp only [Nat.beq_refl, cond_true]; conv => whnf) | (refine ⟨rfl, ?_⟩; intro clock kb b2 hKB hkb; conv => whnf) | (refine ⟨_, _, ⟨hkb, rfl⟩, ?_⟩; conv => whnf) | (refine br_intro ?_ ?_ <;> intro hb <;> (try simp only [brs] at hb) <;> conv => whnf) | (refine RegX.rule (id := 1) hT rfl [] oTCgC53_1 (by decide +kernel) ?_; conv => whnf) | (refine RegX.rule (id := 10) hT rfl [] oTCgC53_10 (by decide +kernel) ?_; conv => whnf) | (refine RegX.rule (id := 11) hT rfl [] oTCgC53_11 (by decide +kernel) ?_; conv => whnf) | (refine RegX.rule (id := 29) hT rfl [] oTCgC53_29 (by decide +kernel) ?_; conv => whnf) | (refine RegX.rule (id := 30) hT rfl [] oTCgC53_30 (by decide +kernel) ?_; conv => whnf) | (refine RegX.rule (id := 31) hT rfl [] oTCgC53_31 (by decide +kernel) ?_; conv => whnf) | omega | (refine And.intro ?_ ?_; ((try dsimp only); first | omega | (refine szA rfl ?_; omega) | (refine szB rfl ?_; omega) | (unfold inI64; omega) | exact rfl | (simp only [lns] at *; omega) | decide | (unfold inI64; decide)); conv => whnf) | decide | assumption)
       all_goals try (exfalso; omega)
       · have hk0 : (c.x kn).hir = [] := by rw [← hLk]; exact hb
         exact ⟨(j + 1, L, H), ⟨by show j + 1 ≤ S.length; omega, c.part_skip hLp hk0 (not_take hcO.pw hSj) hts⟩, by show S.length - (j + 1) < S.length - j; omega,
          Entails.mk' [(7, 7), (8, 8), (9, 9), (14, 14), (15, 15), (19, 19), (21, 21), (22, 22)] rfl rfl ⟨lr, lr, lr, lr, lr, lr, lr, lr, lr, trivial⟩ ⟨rr, rr, rr, rr, rr, rr, rr, Res.le_map (fun key hkk => by
           obtain ⟨a, b, d, rfl⟩ := wk_ssi hkk
           refine ⟨rfl, ?_⟩
           show [DV.int .i64 (c.pm ((S.map Int.toNat).take j) a b d)] = [DV.int .i64 (c.pm ((S.map Int.toNat).take (j + 1)) a b d)]
           rw [c.pm_skip hSj hk0]), trivial⟩⟩
       · have hkne : (c.x kn).hir ≠ [] := by rw [← hLk]; exact hb
         have hcap := c.cap_pm hcok hcO hSj hkne
         have hday2 : ((atK g l L (S.getD (j : Int).toNat 0)).tdiv 1440) = c.day kn := by rw [hat]; rfl
         have hPM : c.pm ((S.map Int.toNat).take j) (L.getD (S.getD (j : Int).toNat 0).toNat cg0).hir (g.getD (gateIx g (l.getD (L.getD (S.getD (j : Int).toNat 0).toNat cg0).ix.toNat pa0).gate).toNat g0).area ((atK g l L (S.getD (j : Int).toNat 0)).tdiv 1440) = c.pm ((S.map Int.toNat).take j) (c.x kn).hir (c.ar kn) (c.day kn) := by rw [har, hday2, hLk]
         have hV : (bif false then max (L.getD (S.getD (j : Int).toNat 0).toNat cg0).cents (C - c.pm ((S.map Int.toNat).take j) (L.getD (S.getD (j : Int).toNat 0).toNat cg0).hir (g.getD (gateIx g (l.getD (L.getD (S.getD (j : Int).toNat 0).toNat cg0).ix.toNat pa0).gate).toNat g0).area ((atK g l L (S.getD (j : Int).toNat 0)).tdiv 1440)) else min (L.getD (S.getD (j : Int).toNat 0).toNat cg0).cents (C - c.pm ((S.map Int.toNat).take j) (L.getD (S.getD (j : Int).toNat 0).toNat cg0).hir (g.getD (gateIx g (l.getD (L.getD (S.getD (j : Int).toNat 0).toNat cg0).ix.toNat pa0).gate).toNat g0).area ((atK g l L (S.getD (j : Int).toNat 0)).tdiv 1440))) = c.cap kn := by rw [cond_false, hcap, hPM, hLk, hcC]
         refine ⟨(j + 1, L.set kn (c.capX kn), fun a b d => keyEq [.str a, .str b, .int .i64 d] [.str (L.getD (S.getD (j : Int).toNat 0).toNat cg0).hir, .str (g.getD (gateIx g (l.getD (L.getD (S.getD (j : Int).toNat 0).toNat cg0).ix.toNat pa0).gate).toNat g0).area, .int .i64 ((atK g l L (S.getD (j : Int).toNat 0)).tdiv 1440)] || H a b d), ⟨by show j + 1 ≤ S.length; omega, c.part_set hLp hknl hts⟩, by show S.length - (j + 1) < S.length - j; omega,
          Entails.mk' [(7, 7), (8, 8), (9, 9), (14, 14), (15, 15), (19, 19), (21, 21), (22, 22)] rfl rfl ⟨lr, lr, lr, lr, lr, lr, lr, lr, lr, trivial⟩ ⟨rr, rr, rr, rr, ?_, rr, rr, ?_, trivial⟩⟩
         · have hset : L.set kn (c.capX kn) = L.set (S.getD (j : Int).toNat 0).toNat ((fun y : Cgx => (⟨y.hir, y.veh, y.ix, (bif false then max (L.getD (S.getD (j : Int).toNat 0).toNat cg0).cents (C - c.pm ((S.map Int.toNat).take j) (L.getD (S.getD (j : Int).toNat 0).toNat cg0).hir (g.getD (gateIx g (l.getD (L.getD (S.getD (j : Int).toNat 0).toNat cg0).ix.toNat pa0).gate).toNat g0).area ((atK g l L (S.getD (j : Int).toNat 0)).tdiv 1440)) else min (L.getD (S.getD (j : Int).toNat 0).toNat cg0).cents (C - c.pm ((S.map Int.toNat).take j) (L.getD (S.getD (j : Int).toNat 0).toNat cg0).hir (g.getD (gateIx g (l.getD (L.getD (S.getD (j : Int).toNat 0).toNat cg0).ix.toNat pa0).gate).toNat g0).area ((atK g l L (S.getD (j : Int).toNat 0)).tdiv 1440)))⟩ : Cgx)) (L.getD (S.getD (j : Int).toNat 0).toNat cg0)) := by
            rw [hV]
            simp only [hLk]
            rw [hKn]; rfl
           rw [hset]
           exact Res.le_upd (fun y : Cgx => (⟨y.hir, y.veh, y.ix, (bif false then max (L.getD (S.getD (j : Int).toNat 0).toNat cg0).cents (C - c.pm ((S.map Int.toNat).take j) (L.getD (S.getD (j : Int).toNat 0).toNat cg0).hir (g.getD (gateIx g (l.getD (L.getD (S.getD (j : Int).toNat 0).toNat cg0).ix.toNat pa0).gate).toNat g0).area ((atK g l L (S.getD (j : Int).toNat 0)).tdiv 1440)) else min (L.getD (S.getD (j : Int).toNat 0).toNat cg0).cents (C - c.pm ((S.map Int.toNat).take j) (L.getD (S.getD (j : Int).toNat 0).toNat cg0).hir (g.getD (gateIx g (l.getD (L.getD (S.getD (j : Int).toNat 0).toNat cg0).ix.toNat pa0).gate).toNat g0).area ((atK g l L (S.getD (j : Int).toNat 0)).tdiv 1440)))⟩ : Cgx)) (fun y => rfl)
         · refine Res.le_map (fun key hkk => ?_)
           obtain ⟨a, b, d, rfl⟩ := wk_ssi hkk
           refine ⟨rfl, ?_⟩
           show (bif keyEq [.str a, .str b, .int .i64 d] [.str (L.getD (S.getD (j : Int).toNat 0).toNat cg0).hir, .str (g.getD (gateIx g (l.getD (L.getD (S.getD (j : Int).toNat 0).toNat cg0).ix.toNat pa0).gate).toNat g0).area, .int .i64 ((atK g l L (S.getD (j : Int).toNat 0)).tdiv 1440)] then [DV.int .i64 (c.pm ((S.map Int.toNat).take j) (L.getD (S.getD (j : Int).toNat 0).toNat cg0).hir (g.getD (gateIx g (l.getD (L.getD (S.getD (j : Int).toNat 0).toNat cg0).ix.toNat pa0).gate).toNat g0).area ((atK g l L (S.getD (j : Int).toNat 0)).tdiv 1440) + (bif false then max (L.getD (S.getD (j : Int).toNat 0).toNat cg0).cents (C - c.pm ((S.map Int.toNat).take j) (L.getD (S.getD (j : Int).toNat 0).toNat cg0).hir (g.getD (gateIx g (l.getD (L.getD (S.getD (j : Int).toNat 0).toNat cg0).ix.toNat pa0).gate).toNat g0).area ((atK g l L (S.getD (j : Int).toNat 0)).tdiv 1440)) else min (L.getD (S.getD (j : Int).toNat 0).toNat cg0).cents (C - c.pm ((S.map Int.toNat).take j) (L.getD (S.getD (j : Int).toNat 0).toNat cg0).hir (g.getD (gateIx g (l.getD (L.getD (S.getD (j : Int).toNat 0).toNat cg0).ix.toNat pa0).gate).toNat g0).area ((atK g l L (S.getD (j : Int).toNat 0)).tdiv 1440))))] else [DV.int .i64 (c.pm ((S.map Int.toNat).take j) a b d)]) = [DV.int .i64 (c.pm ((S.map Int.toNat).take (j + 1)) a b d)]
           rw [keyEq_ssi, c.pm_new hcok hcO hSj hkne, hV, hPM, har, hday2, hLk]
           by_cases q : a = (c.x kn).hir ∧ b = c.ar kn ∧ d = c.day kn
           · rw [decide_eq_true q, if_pos q]; rfl
           · rw [decide_eq_false q, if_neg q]; rfl
     · have hjS : j = S.length := by omega
       have hall : L = c.out := c.part_all hLp (fun k hk => by
        rw [List.take_of_length_le (by rw [List.length_map]; omega)]
        exact hcO.perm.mem_iff.2 (List.mem_range.2 hk))
       conv => whnf
       repeat' (first | (refine br_intro ?_ ?_ <;> intro hb <;> (try simp only [brs] at hb) <;> conv => whnf) | (refine RegX.rule (id := 1) hT rfl [] oTCgC53_1 (by decide +kernel) ?_; conv => whnf) | (refine RegX.rule (id := 10) hT rfl [] oTCgC53_10 (by decide +kernel) ?_; conv => whnf) | (refine RegX.rule (id := 11) hT rfl [] oTCgC53_11 (by decide +kernel) ?_; conv => whnf) | (refine RegX.rule (id := 29) hT rfl [] oTCgC53_29 (by decide +kernel) ?_; conv => whnf) | (refine RegX.rule (id := 30) hT rfl [] oTCgC53_30 (by decide +kernel) ?_; conv => whnf) | (refine RegX.rule (id := 31) hT rfl [] oTCgC53_31 (by decide +kernel) ?_; conv => whnf) | omega | (refine And.intro ?_ ?_; ((try dsimp only); first | omega | (refine szA rfl ?_; omega) | (refine szB rfl ?_; omega) | (unfold inI64; omega) | exact rfl | (simp only [lns] at *; omega) | decide | (unfold inI64; decide)); conv => whnf) | decide | assumption)
       all_goals try (exfalso; omega)
       refine .freeze _ 15 103 4 _ _ rfl (.weak _ ?_)
       conv => whnf
       exact ⟨.tup [.d (cgxs L), .d (.int .i64 0)], [], SV.le_tup ⟨lr, lr, trivial⟩, ⟨by unfold cgR2; rw [if_neg hC, ← hc, hall], rfl⟩, trivial⟩
def oTCgE56_7 : List (Nat × List Nat) := [(0, []), (1, [0]), (2, [0, 1]), (3, [0, 1]), (4, [0, 1, 2, 3]), (5, [0, 1, 2, 3, 4]), (6, [0, 1, 2, 3]), (7, []), (8, []), (9, []), (10, [9]), (11, [10]), (12, [])]
def oTCgE56_22 : List (Nat × List Nat) := [(0, []), (1, [0]), (2, [0, 1]), (3, [0, 1]), (4, [0]), (5, [0]), (7, [0, 1, 2, 3, 4, 5]), (8, [0, 1, 2, 3, 4, 5, 7]), (9, [0, 1, 2, 3, 4, 5, 7, 8]), (10, [0, 1, 2, 3, 4, 5, 7, 8]), (11, [0, 1, 2, 3, 4, 5, 7]), (12, [0, 1, 2, 3, 4, 5, 7]), (6, [7, 8, 9, 10, 11, 12]), (13, []), (14, []), (15, [])]
set_option maxHeartbeats 8000000 in
theorem c56 (f : Flt) (h : List Hir) (hhl : h.length ≤ 2^40) (hlg : ∀ x ∈ h, x.legs.length ≤ 2^40) (g : List Gate) (D C F : Int) (l : List Pas) (E0 : cgE f h g D C F l = 0) :
 FSpec Tryz.prog 56 [flt f, .d (hirs h), .d (gates g), .agg [.d (.int .i64 D), .d (.int .i64 C), .d (.int .i64 F)], .d (pass l)] [] (fun y r => y = .d (cgxs (cgR2 f h g D C l)) ∧ r = []) := by
 obtain ⟨E1, E2, E3, c1, c2⟩ := cgE_zero E0
 have hon := chk_on E3
 obtain ⟨⟨n1, n2⟩, n3, n4⟩ := chk_zero E3
 obtain ⟨_, hpl⟩ := fltE_srt E1
 have hseq : ∀ x ∈ h, lgSeq x.legs := fun x hx => lgSeq_of ((hirs_seq E2).1 x hx)
 have hdl := dblIx_len (D := D) (l := l) (n := l.length)
 refine spec_of hT (C := []) Tryz.func56 rfl Tryz.call56 rfl rfl rfl ?_
 conv => whnf
 repeat' (first | (refine CallX.exact (c133 D C F l n3 n4) rfl rfl ?_; rotate_right; conv => whnf) | (refine br_intro ?_ ?_ <;> intro hb <;> (try simp only [brs] at hb) <;> conv => whnf) | (refine RegX.rule (id := 7) hT rfl [] oTCgE56_7 (by decide +kernel) ?_; conv => whnf) | (refine RegX.rule (id := 22) hT rfl [] oTCgE56_22 (by decide +kernel) ?_; conv => whnf) | omega | (refine And.intro ?_ ?_; ((try dsimp only); first | omega | (refine szA rfl ?_; omega) | (refine szB rfl ?_; omega) | (unfold inI64; omega) | exact rfl | (simp only [lns] at *; omega) | decide | (unfold inI64; decide)); conv => whnf) | decide | assumption)
 refine LoopX.rule hT (C := []) (ι := Nat) (fun i => i ≤ l.length) (fun i => mkSt [(1, .d (hirs h)), (5, .ptr 5 0), (7, .ptr 7 0), (8, .ptr 8 0), (9, .ptr 9 0), (11, .d (ints (dblIx D l l.length))), (12, .buf 12), (32, .d (pass l)), (33, .d (.int .i64 l.length)), (34, .d (.int .i64 i))] [(5, fltC f), (7, .cells 75 [.d (gates g)]), (8, .cells 95 [.d (.int .i64 D), .d (.int .i64 C), .d (.int .i64 F)]), (9, .cells 77 [.d (pass l)]), (12, cgB (cgL f h g D l i))]) (fun i => l.length - i) 0 (by omega) ?_ ?_
 · refine (Entails.nil 12 12 103 4 (rowF cgF cg0 []) rfl rfl (by decide)).trans ?_
   exact Entails.mk' [(5, 5), (7, 7), (8, 8), (9, 9), (12, 12)] rfl rfl ⟨lr, lr, lr, lr, lr, lr, lr, lr, lr, lr, trivial⟩ ⟨rr, rr, rr, rr, rr, trivial⟩
 intro i p1
 have e1 : (i : Int).toNat = i := Int.toNat_natCast i
 have hcl := cgL_len f h g D l i
 rcases Nat.lt_or_ge i l.length with hi | hi
 · have hc2 := n4 (l.getD (i : Int).toNat pa0) (getD_mem (by omega))
   have ho2 := hon i hi
   have hdm := dbl_mem (D := D) hi
   rw [← e1] at ho2
   have hgp : gateP g (l.getD (i : Int).toNat pa0) = g.getD (gateIx g (l.getD (i : Int).toNat pa0).gate).toNat g0 := by unfold gateP; rw [if_neg (by omega)]
   have hgb := (ixF_bd (p := fun q => (g.getD q g0).key == (l.getD (i : Int).toNat pa0).gate) (n := g.length)).2.1
   have hgc := n2 (g.getD (gateIx g (l.getD (i : Int).toNat pa0).gate).toNat g0) (getD_mem (by have : gateIx g (l.getD (i : Int).toNat pa0).gate < g.length := hgb; omega))
   rw [← hgp] at hgc
   have h94 := s94 g (by omega) (l.getD (i : Int).toNat pa0) ⟨by omega, by omega⟩ ⟨by omega, by omega⟩
   rw [← gateP_true ho2.1] at h94
   conv => whnf
   repeat' (first | (refine CallX.exact (c60 (dblIx D l l.length) (by omega) (i : Int)) rfl rfl ?_; rotate_right; conv => whnf) | (refine CallX.exact (h94) rfl rfl ?_; rotate_right; conv => whnf) | (refine CallX.exact (z46 f hpl h hhl hseq hlg (l.getD (i : Int).toNat pa0).plate (trueT g (l.getD (i : Int).toNat pa0))) rfl rfl ?_; rotate_right; conv => whnf) | (refine br_intro ?_ ?_ <;> intro hb <;> (try simp only [brs] at hb) <;> conv => whnf) | (refine RegX.rule (id := 7) hT rfl [] oTCgE56_7 (by decide +kernel) ?_; conv => whnf) | (refine RegX.rule (id := 22) hT rfl [] oTCgE56_22 (by decide +kernel) ?_; conv => whnf) | omega | (refine And.intro ?_ ?_; ((try dsimp only); first | omega | (refine szA rfl ?_; omega) | (refine szB rfl ?_; omega) | (unfold inI64; omega) | exact rfl | (simp only [lns] at *; omega) | decide | (unfold inI64; decide)); conv => whnf) | decide | assumption)
   all_goals try (exfalso; omega)
   · have hB : dblB D l i = true := hdm.1 hb
     refine ⟨i + 1, by omega, by omega, ?_⟩
     rw [cgL_succ, if_pos hB, List.append_nil]
     exact Entails.mk' [(5, 5), (7, 7), (8, 8), (9, 9), (12, 12)] rfl rfl ⟨lr, lr, lr, lr, lr, lr, lr, lr, lr, lr, trivial⟩ ⟨rr, rr, rr, rr, rr, trivial⟩
   · have hB : dblB D l i = false := by
      cases q : dblB D l i with
      | false => rfl
      | true => exact absurd (hdm.2 q) hb
     have hcs : cgL f h g D l (i + 1) = cgL f h g D l i ++ [cgx f h g l i] := by rw [cgL_succ, if_neg (by rw [hB]; simp)]
     have hx : cgx f h g l i = ⟨ownR f.plt h (l.getD (i : Int).toNat pa0).plate (trueT g (l.getD (i : Int).toNat pa0)), wearV f.plt (l.getD (i : Int).toNat pa0).plate (trueT g (l.getD (i : Int).toNat pa0)), i, (l.getD (i : Int).toNat pa0).cents⟩ := by rw [e1]; rfl
     refine ⟨i + 1, by omega, by omega, ?_⟩
     rw [hcs, hx]
     exact Entails.mk' [(5, 5), (7, 7), (8, 8), (9, 9), (12, 61)] rfl rfl ⟨lr, lr, lr, lr, lr, lr, lr, lr, lr, lr, trivial⟩ ⟨rr, rr, rr, rr, Res.le_snocF (by rfl), trivial⟩
 · have hil : i = l.length := by omega
   rw [hil]
   rw [hil] at hcl
   obtain ⟨X, hX⟩ : ∃ X, X = cgL f h g D l l.length := ⟨_, rfl⟩
   rw [← hX]
   rw [← hX] at hcl
   conv => whnf
   repeat' (first | (refine br_intro ?_ ?_ <;> intro hb <;> (try simp only [brs] at hb) <;> conv => whnf) | (refine RegX.rule (id := 7) hT rfl [] oTCgE56_7 (by decide +kernel) ?_; conv => whnf) | (refine RegX.rule (id := 22) hT rfl [] oTCgE56_22 (by decide +kernel) ?_; conv => whnf) | omega | (refine And.intro ?_ ?_; ((try dsimp only); first | omega | (refine szA rfl ?_; omega) | (refine szB rfl ?_; omega) | (unfold inI64; omega) | exact rfl | (simp only [lns] at *; omega) | decide | (unfold inI64; decide)); conv => whnf) | decide | assumption)
   all_goals try (exfalso; omega)
   · refine .freeze _ 12 103 4 _ _ rfl (.weak _ ?_)
     conv => whnf
     exact ⟨.d (cgxs X), [], lr, ⟨by unfold cgR2; rw [if_pos (by omega), hX], rfl⟩, trivial⟩
   have hC : C ≠ -1 := by omega
   clear i p1 e1 hcl hi hil
   have hXl : X.length ≤ 1000 := by rw [hX]; have := cgL_len f h g D l l.length; omega
   obtain ⟨c, hc⟩ : ∃ c, c = cgC f h g D C l := ⟨_, rfl⟩
   have hcX : c.X = X := by rw [hc, hX]; rfl
   have hcC : c.C = C := by rw [hc]; rfl
   have hcok : c.Ok := by rw [hc]; exact cgC_ok E0 hC
   have hxX : ∀ k, c.x k = X.getD k cg0 := fun k => by unfold CgC.x; rw [hcX]
   have hix : ∀ k, k < X.length → 0 ≤ (c.x k).ix ∧ (c.x k).ix < l.length ∧ (c.x k).cents = (l.getD (c.x k).ix.toNat pa0).cents := fun k hk => by
    rw [hxX k]
    rw [hX] at hk ⊢
    exact cgL_ix hk
   have hG : g.length ≤ 2^40 ∧ ∀ y ∈ g, -2^40 ≤ y.clock ∧ y.clock ≤ 2^40 := ⟨by omega, fun y hy => by have := n2 y hy; omega⟩
   have hP : ∀ p ∈ l, -2^40 ≤ p.tm ∧ p.tm ≤ 2^40 := fun p hp => by have := n4 p hp; omega
   have hgc : ∀ k, k < X.length → (-2^40 ≤ (gateP g (l.getD (c.x k).ix.toNat pa0)).clock ∧ (gateP g (l.getD (c.x k).ix.toNat pa0)).clock ≤ 2^40) ∧ (l.getD (c.x k).ix.toNat pa0).tm - (gateP g (l.getD (c.x k).ix.toNat pa0)).clock = c.tm k ∧ (0 ≤ c.tm k ∧ c.tm k ≤ 5761439) ∧ (gateP g (l.getD (c.x k).ix.toNat pa0)).area = c.ar k := fun k hk => by
    have h1 := hix k hk
    have h2 := hon (c.x k).ix.toNat (by omega)
    have h3 : gateP g (l.getD (c.x k).ix.toNat pa0) = g.getD (gateIx g (l.getD (c.x k).ix.toNat pa0).gate).toNat g0 := by unfold gateP; rw [if_neg (by omega)]
    have h4 := (ixF_bd (p := fun q => (g.getD q g0).key == (l.getD (c.x k).ix.toNat pa0).gate) (n := g.length)).2.1
    have h5 := n2 (g.getD (gateIx g (l.getD (c.x k).ix.toNat pa0).gate).toNat g0) (getD_mem (by have : gateIx g (l.getD (c.x k).ix.toNat pa0).gate < g.length := h4; omega))
    have h6 : c.tm k = trueT g (l.getD (c.x k).ix.toNat pa0) := by rw [hxX k, hc, hX]; rfl
    have h7 : c.ar k = (gateP g (l.getD (c.x k).ix.toNat pa0)).area := by rw [hxX k, hc, hX]; rfl
    rw [← gateP_true h2.1, ← h6, ← h7]
    exact ⟨by rw [h3]; omega, rfl, by rw [h6]; exact h2.2, rfl⟩
   refine LoopX.rule hT (C := []) (ι := Nat × List Cgx) (fun (i, L) => i ≤ X.length ∧ c.part (fun k => k < i) L) (fun (i, L) => mkSt [(7, .ptr 7 0), (8, .ptr 8 0), (9, .ptr 9 0), (12, .buf 12), (17, .fn 134 [.ptr 9 0, .ptr 7 0]), (68, .buf 12), (69, .d (.int .i64 X.length)), (70, .d (.int .i64 i))] [(7, .cells 75 [.d (gates g)]), (8, .cells 95 [.d (.int .i64 D), .d (.int .i64 C), .d (.int .i64 F)]), (9, .cells 77 [.d (pass l)]), (12, cgB L)]) (fun (i, _) => X.length - i) (0, X) ⟨Nat.zero_le _, by rw [← hcX]; exact c.part_none (fun k => Nat.not_lt_zero k)⟩ ?_ ?_
   · exact Entails.mk' [(7, 7), (8, 8), (9, 9), (12, 12)] rfl rfl ⟨lr, lr, lr, lr, lr, lr, lr, lr, trivial⟩ ⟨rr, rr, rr, rr, trivial⟩
   rintro ⟨i, L⟩ ⟨p1, hLp⟩
   have p1 : i ≤ X.length := p1
   have hLp : c.part (fun k => k < i) L := hLp
   have e1 : (i : Int).toNat = i := Int.toNat_natCast i
   have hLl : L.length = X.length := by rw [hLp.1, hcX]
   rcases Nat.lt_or_ge i X.length with hi | hi
   · have hLi : (L.getD (i : Int).toNat cg0) = c.x i := by rw [e1]; exact (hLp.2 i).2 (Nat.lt_irrefl i)
     have hixi := hix i hi
     obtain ⟨g1, g2, g3, g4⟩ := hgc i hi
     have hdi : inI64 (((l.getD (L.getD (i : Int).toNat cg0).ix.toNat pa0).tm - (gateP g (l.getD (L.getD (i : Int).toNat cg0).ix.toNat pa0)).clock).tdiv 1440) := by rw [hLi, g2, Int.tdiv_eq_ediv_of_nonneg g3.1]; unfold inI64; omega
     have h134 := c134 g l (L.getD (i : Int).toNat cg0) hG hP (by rw [hLi]; exact ⟨hixi.1, hixi.2.1⟩) hdi (by rw [hLi]; exact g1)
     conv => whnf
     repeat' (first | (refine CallX.of h134 [(1000009, 9), (1000007, 7)] rfl ⟨lr, lr, lr, trivial⟩ ⟨rr, rr, trivial⟩ rfl rfl ?_; rintro x rout ⟨rfl, rfl⟩; refine ⟨rfl, ?_⟩; conv => whnf) | (refine br_intro ?_ ?_ <;> intro hb <;> (try simp only [brs] at hb) <;> conv => whnf) | (refine RegX.rule (id := 7) hT rfl [] oTCgE56_7 (by decide +kernel) ?_; conv => whnf) | (refine RegX.rule (id := 22) hT rfl [] oTCgE56_22 (by decide +kernel) ?_; conv => whnf) | omega | (refine And.intro ?_ ?_; ((try dsimp only); first | omega | (refine szA rfl ?_; omega) | (refine szB rfl ?_; omega) | (unfold inI64; omega) | exact rfl | (simp only [lns] at *; omega) | decide | (unfold inI64; decide)); conv => whnf) | decide | assumption)
     all_goals try (exfalso; omega)
     have hA : (gateP g (l.getD (L.getD (i : Int).toNat cg0).ix.toNat pa0)).area = c.ar i := by rw [hLi]; exact g4
     have hDy : ((l.getD (L.getD (i : Int).toNat cg0).ix.toNat pa0).tm - (gateP g (l.getD (L.getD (i : Int).toNat cg0).ix.toNat pa0)).clock).tdiv 1440 = c.day i := by rw [hLi, g2]; rfl
     have hTi : (l.getD (L.getD (i : Int).toNat cg0).ix.toNat pa0).tm - (gateP g (l.getD (L.getD (i : Int).toNat cg0).ix.toNat pa0)).clock = c.tm i := by rw [hLi]; exact g2
     refine LoopX.rule hT (C := []) (ι := Nat) (fun m => m ≤ X.length) (fun m => mkSt [(7, .ptr 7 0), (8, .ptr 8 0), (9, .ptr 9 0), (12, .buf 12), (17, .fn 134 [.ptr 9 0, .ptr 7 0]), (18, .d (.int .i64 i)), (19, .ptr 19 0), (20, .d (.int .i64 (c.day i))), (21, .d (.str (c.ar i))), (22, .d (.int .i64 (c.bef i m))), (68, .buf 12), (69, .d (.int .i64 X.length)), (70, .d (.int .i64 i)), (81, .buf 12), (82, .d (.int .i64 X.length)), (83, .d (.int .i64 m))] [(7, .cells 75 [.d (gates g)]), (8, .cells 95 [.d (.int .i64 D), .d (.int .i64 C), .d (.int .i64 F)]), (9, .cells 77 [.d (pass l)]), (12, cgB L), (19, .cells 103 ((cgF (L.getD (i : Int).toNat cg0)).map .d))]) (fun m => X.length - m) 0 (Nat.zero_le _) ?_ ?_
     · exact Entails.mk' [(7, 7), (8, 8), (9, 9), (12, 12), (19, 19)] rfl rfl ⟨lr, lr, lr, lr, lr, lr, lr, SV.le_int hDy, (by rw [← hA]; exact lr), lr, lr, lr, lr, lr, SV.le_int (by rw [hLl]), lr, trivial⟩ ⟨rr, rr, rr, rr, rr, trivial⟩
     intro m p2
     have e2 : (m : Int).toNat = m := Int.toNat_natCast m
     have hbb := c.bef_bd hcok i m
     rcases Nat.lt_or_ge m X.length with hm | hm
     · obtain ⟨hs1, hs2⟩ := c.part_same hLp m (by rw [hcX]; exact hm)
       rw [← e2] at hs1 hs2
       have hs1 : (L.getD (m : Int).toNat cg0).hir = (c.x m).hir := by rw [hs1, e2]
       have hs2 : (L.getD (m : Int).toNat cg0).ix = (c.x m).ix := by rw [hs2, e2]
       have hixm := hix m hm
       obtain ⟨k1, k2, k3, k4⟩ := hgc m hm
       have hcm := hcok.cents m
       have hdm2 : inI64 (((l.getD (L.getD (m : Int).toNat cg0).ix.toNat pa0).tm - (gateP g (l.getD (L.getD (m : Int).toNat cg0).ix.toNat pa0)).clock).tdiv 1440) := by rw [hs2, k2, Int.tdiv_eq_ediv_of_nonneg k3.1]; unfold inI64; omega
       have h134m := c134 g l (L.getD (m : Int).toNat cg0) hG hP (by rw [hs2]; exact ⟨hixm.1, hixm.2.1⟩) hdm2 (by rw [hs2]; exact k1)
       have hix2 : 0 ≤ (L.getD (m : Int).toNat cg0).ix ∧ (L.getD (m : Int).toNat cg0).ix < l.length := by rw [hs2]; exact ⟨hixm.1, hixm.2.1⟩
       have hix3 : 0 ≤ (L.getD (i : Int).toNat cg0).ix ∧ (L.getD (i : Int).toNat cg0).ix < l.length := by rw [hLi]; exact ⟨hixi.1, hixi.2.1⟩
       have h94i := s94 g hG.1 (l.getD (L.getD (i : Int).toNat cg0).ix.toNat pa0) (hP _ (getD_mem (by omega))) (by rw [hLi]; exact g1)
       have h94m := s94 g hG.1 (l.getD (L.getD (m : Int).toNat cg0).ix.toNat pa0) (hP _ (getD_mem (by omega))) (by rw [hs2]; exact k1)
       have hMc : (l.getD (L.getD (m : Int).toNat cg0).ix.toNat pa0).cents = (c.x m).cents := by rw [hs2]; exact hixm.2.2.symm
       have hMA : (gateP g (l.getD (L.getD (m : Int).toNat cg0).ix.toNat pa0)).area = c.ar m := by rw [hs2]; exact k4
       have hMD : ((l.getD (L.getD (m : Int).toNat cg0).ix.toNat pa0).tm - (gateP g (l.getD (L.getD (m : Int).toNat cg0).ix.toNat pa0)).clock).tdiv 1440 = c.day m := by rw [hs2, k2]; rfl
       have hMT : (l.getD (L.getD (m : Int).toNat cg0).ix.toNat pa0).tm - (gateP g (l.getD (L.getD (m : Int).toNat cg0).ix.toNat pa0)).clock = c.tm m := by rw [hs2]; exact k2
       have fs1 : (L.getD m cg0).hir = (c.x m).hir := by rw [e2] at hs1; exact hs1
       have fLi : (L.getD i cg0) = c.x i := by rw [e1] at hLi; exact hLi
       have fMA : (gateP g (l.getD (L.getD m cg0).ix.toNat pa0)).area = c.ar m := by rw [e2] at hMA; exact hMA
       have fMD : ((l.getD (L.getD m cg0).ix.toNat pa0).tm - (gateP g (l.getD (L.getD m cg0).ix.toNat pa0)).clock).tdiv 1440 = c.day m := by rw [e2] at hMD; exact hMD
       have fMT : (l.getD (L.getD m cg0).ix.toNat pa0).tm - (gateP g (l.getD (L.getD m cg0).ix.toNat pa0)).clock = c.tm m := by rw [e2] at hMT; exact hMT
       have fTi : (l.getD (L.getD i cg0).ix.toNat pa0).tm - (gateP g (l.getD (L.getD i cg0).ix.toNat pa0)).clock = c.tm i := by rw [e1] at hTi; exact hTi
       conv => whnf
       repeat' (first | (refine CallX.of h134m [(1000009, 9), (1000007, 7)] rfl ⟨lr, lr, lr, trivial⟩ ⟨rr, rr, trivial⟩ rfl rfl ?_; rintro x rout ⟨rfl, rfl⟩; refine ⟨rfl, ?_⟩; conv => whnf) | (refine CallX.exact (h94m) rfl rfl ?_; rotate_right; conv => whnf) | (refine CallX.exact (h94i) rfl rfl ?_; rotate_right; conv => whnf) | (refine br_intro ?_ ?_ <;> intro hb <;> (try simp only [brs] at hb) <;> conv => whnf) | (refine RegX.rule (id := 7) hT rfl [] oTCgE56_7 (by decide +kernel) ?_; conv => whnf) | (refine RegX.rule (id := 22) hT rfl [] oTCgE56_22 (by decide +kernel) ?_; conv => whnf) | omega | (refine And.intro ?_ ?_; ((try dsimp only); first | omega | (refine szA rfl ?_; omega) | (refine szB rfl ?_; omega) | (unfold inI64; omega) | exact rfl | (simp only [lns] at *; omega) | decide | (unfold inI64; decide)); conv => whnf) | decide | assumption)
       · rename_i b1 b2 b3
         have q : c.same m i ∧ c.lex m i := ⟨⟨by rw [← fs1, ← fLi]; exact b1, by rw [← fMD]; exact b2, by rw [← fMA]; exact b3⟩, .inl (by rw [← fMT, ← fTi]; exact hb)⟩
         exact ⟨m + 1, by omega, by omega, Entails.mk' [(7, 7), (8, 8), (9, 9), (12, 12), (19, 19)] rfl rfl ⟨lr, lr, lr, lr, lr, lr, lr, lr, lr, SV.le_int (by rw [CgC.bef, if_pos q, hMc]), lr, lr, lr, lr, lr, lr, trivial⟩ ⟨rr, rr, rr, rr, rr, trivial⟩⟩
       · rename_i b1 b2 b3 b4 b5
         have q : c.same m i ∧ c.lex m i := ⟨⟨by rw [← fs1, ← fLi]; exact b1, by rw [← fMD]; exact b2, by rw [← fMA]; exact b3⟩, .inr ⟨by rw [← fMT, ← fTi]; exact b5, by omega⟩⟩
         exact ⟨m + 1, by omega, by omega, Entails.mk' [(7, 7), (8, 8), (9, 9), (12, 12), (19, 19)] rfl rfl ⟨lr, lr, lr, lr, lr, lr, lr, lr, lr, SV.le_int (by rw [CgC.bef, if_pos q, hMc]), lr, lr, lr, lr, lr, lr, trivial⟩ ⟨rr, rr, rr, rr, rr, trivial⟩⟩
       · rename_i b1 b2 b3 b4 b5
         have q : ¬ (c.same m i ∧ c.lex m i) := by
          rintro ⟨_, q4⟩
          have h5 : c.tm m = c.tm i := by rw [← fMT, ← fTi]; exact b5
          unfold CgC.lex at q4
          omega
         exact ⟨m + 1, by omega, by omega, Entails.mk' [(7, 7), (8, 8), (9, 9), (12, 12), (19, 19)] rfl rfl ⟨lr, lr, lr, lr, lr, lr, lr, lr, lr, SV.le_int (by rw [CgC.bef, if_neg q, Int.add_zero]), lr, lr, lr, lr, lr, lr, trivial⟩ ⟨rr, rr, rr, rr, rr, trivial⟩⟩
       · rename_i b1 b2 b3 b4
         have q : ¬ (c.same m i ∧ c.lex m i) := by
          rintro ⟨_, q4⟩
          have h4 : c.tm i ≤ c.tm m := by rw [← fMT, ← fTi]; exact b4
          have h5 : ¬ c.tm m = c.tm i := by rw [← fMT, ← fTi]; exact hb
          unfold CgC.lex at q4
          omega
         exact ⟨m + 1, by omega, by omega, Entails.mk' [(7, 7), (8, 8), (9, 9), (12, 12), (19, 19)] rfl rfl ⟨lr, lr, lr, lr, lr, lr, lr, lr, lr, SV.le_int (by rw [CgC.bef, if_neg q, Int.add_zero]), lr, lr, lr, lr, lr, lr, trivial⟩ ⟨rr, rr, rr, rr, rr, trivial⟩⟩
       · have q : ¬ (c.same m i ∧ c.lex m i) := fun z => hb (by rw [fMA]; exact z.1.2.2)
         exact ⟨m + 1, by omega, by omega, Entails.mk' [(7, 7), (8, 8), (9, 9), (12, 12), (19, 19)] rfl rfl ⟨lr, lr, lr, lr, lr, lr, lr, lr, lr, SV.le_int (by rw [CgC.bef, if_neg q, Int.add_zero]), lr, lr, lr, lr, lr, lr, trivial⟩ ⟨rr, rr, rr, rr, rr, trivial⟩⟩
       · have q : ¬ (c.same m i ∧ c.lex m i) := fun z => hb (by rw [fMD]; exact z.1.2.1)
         exact ⟨m + 1, by omega, by omega, Entails.mk' [(7, 7), (8, 8), (9, 9), (12, 12), (19, 19)] rfl rfl ⟨lr, lr, lr, lr, lr, lr, lr, lr, lr, SV.le_int (by rw [CgC.bef, if_neg q, Int.add_zero]), lr, lr, lr, lr, lr, lr, trivial⟩ ⟨rr, rr, rr, rr, rr, trivial⟩⟩
       · have q : ¬ (c.same m i ∧ c.lex m i) := fun z => hb (by rw [fs1, fLi]; exact z.1.1)
         exact ⟨m + 1, by omega, by omega, Entails.mk' [(7, 7), (8, 8), (9, 9), (12, 12), (19, 19)] rfl rfl ⟨lr, lr, lr, lr, lr, lr, lr, lr, lr, SV.le_int (by rw [CgC.bef, if_neg q, Int.add_zero]), lr, lr, lr, lr, lr, lr, trivial⟩ ⟨rr, rr, rr, rr, rr, trivial⟩⟩
     · have hmX : m = X.length := by omega
       rw [hmX]
       rw [hmX] at hbb
       have hcap : c.cap i = if (c.x i).hir = [] then (c.x i).cents else max 0 (min (c.x i).cents (C - c.bef i X.length)) := by unfold CgC.cap; rw [hcX, hcC]
       have hci := hcok.cents i
       have hts : ∀ o, o < i + 1 ↔ o < i ∨ o = i := fun o => by omega
       conv => whnf
       repeat' (first | (refine br_intro ?_ ?_ <;> intro hb <;> (try simp only [brs] at hb) <;> conv => whnf) | (refine RegX.rule (id := 7) hT rfl [] oTCgE56_7 (by decide +kernel) ?_; conv => whnf) | (refine RegX.rule (id := 22) hT rfl [] oTCgE56_22 (by decide +kernel) ?_; conv => whnf) | omega | (refine And.intro ?_ ?_; ((try dsimp only); first | omega | (refine szA rfl ?_; omega) | (refine szB rfl ?_; omega) | (unfold inI64; omega) | exact rfl | (simp only [lns] at *; omega) | decide | (unfold inI64; decide)); conv => whnf) | decide | assumption)
       all_goals try (exfalso; omega)
       · have hk1 : (c.x i).hir ≠ [] := by rw [← hLi, e1]; exact hb
         have hV : (bif true then max 0 (bif false then max (L.getD (i : Int).toNat cg0).cents (C - c.bef i X.length) else min (L.getD (i : Int).toNat cg0).cents (C - c.bef i X.length)) else min 0 (bif false then max (L.getD (i : Int).toNat cg0).cents (C - c.bef i X.length) else min (L.getD (i : Int).toNat cg0).cents (C - c.bef i X.length))) = c.cap i := by rw [cond_true, cond_false, hcap, if_neg hk1, hLi]
         have hset : L.set i (c.capX i) = L.set (i : Int).toNat ((fun y : Cgx => (⟨y.hir, y.veh, y.ix, (bif true then max 0 (bif false then max (L.getD (i : Int).toNat cg0).cents (C - c.bef i X.length) else min (L.getD (i : Int).toNat cg0).cents (C - c.bef i X.length)) else min 0 (bif false then max (L.getD (i : Int).toNat cg0).cents (C - c.bef i X.length) else min (L.getD (i : Int).toNat cg0).cents (C - c.bef i X.length)))⟩ : Cgx)) (L.getD (i : Int).toNat cg0)) := by
          rw [hV]
          simp only [hLi]
          rw [e1]; rfl
         refine ⟨(i + 1, L.set i (c.capX i)), ⟨by show i + 1 ≤ X.length; omega, c.part_set hLp (by rw [hcX]; exact hi) hts⟩, by show X.length - (i + 1) < X.length - i; omega, Entails.mk' [(7, 7), (8, 8), (9, 9), (12, 12)] rfl rfl ⟨lr, lr, lr, lr, lr, lr, lr, lr, trivial⟩ ⟨rr, rr, rr, ?_, trivial⟩⟩
         rw [hset]
         exact Res.le_upd (fun y : Cgx => (⟨y.hir, y.veh, y.ix, (bif true then max 0 (bif false then max (L.getD (i : Int).toNat cg0).cents (C - c.bef i X.length) else min (L.getD (i : Int).toNat cg0).cents (C - c.bef i X.length)) else min 0 (bif false then max (L.getD (i : Int).toNat cg0).cents (C - c.bef i X.length) else min (L.getD (i : Int).toNat cg0).cents (C - c.bef i X.length)))⟩ : Cgx)) (fun y => rfl)
       · have hk0 : (c.x i).hir = [] := by rw [← hLi, e1]; exact hb
         exact ⟨(i + 1, L), ⟨by show i + 1 ≤ X.length; omega, c.part_skip hLp hk0 (Nat.lt_irrefl i) hts⟩, by show X.length - (i + 1) < X.length - i; omega, Entails.mk' [(7, 7), (8, 8), (9, 9), (12, 12)] rfl rfl ⟨lr, lr, lr, lr, lr, lr, lr, lr, trivial⟩ ⟨rr, rr, rr, rr, trivial⟩⟩
   · have hiX : i = X.length := by omega
     have hall : L = c.out := c.part_all hLp (fun k hk => by rw [hcX] at hk; omega)
     conv => whnf
     repeat' (first | (refine br_intro ?_ ?_ <;> intro hb <;> (try simp only [brs] at hb) <;> conv => whnf) | (refine RegX.rule (id := 7) hT rfl [] oTCgE56_7 (by decide +kernel) ?_; conv => whnf) | (refine RegX.rule (id := 22) hT rfl [] oTCgE56_22 (by decide +kernel) ?_; conv => whnf) | omega | (refine And.intro ?_ ?_; ((try dsimp only); first | omega | (refine szA rfl ?_; omega) | (refine szB rfl ?_; omega) | (unfold inI64; omega) | exact rfl | (simp only [lns] at *; omega) | decide | (unfold inI64; decide)); conv => whnf) | decide | assumption)
     all_goals try (exfalso; omega)
     refine .freeze _ 12 103 4 _ _ rfl (.weak _ ?_)
     conv => whnf
     exact ⟨.d (cgxs L), [], lr, ⟨by unfold cgR2; rw [if_neg hC, ← hc, hall], rfl⟩, trivial⟩
section
variable {v : List UInt8} {a b : Int} {l : List Hir}
end
def oTCgF55_6 : List (Nat × List Nat) := [(0, []), (1, [0]), (2, []), (3, []), (4, [0, 1, 2, 3]), (5, [0, 1, 2, 3, 4]), (6, [0, 1, 2, 3]), (7, [0, 1, 2, 3]), (8, [])]
def oTCgF7_4 : List (Nat × List Nat) := [(0, []), (2, [0]), (4, [0, 2]), (6, [0, 2, 4]), (7, [0, 2, 4, 6]), (1, [2, 4, 6, 7]), (3, [4, 6, 7]), (5, [6, 7]), (8, []), (9, []), (10, []), (11, [])]
theorem cgx_eq {a b : Cgx} : a = b ↔ ((a.hir = b.hir ∧ a.veh = b.veh) ∧ a.ix = b.ix) ∧ a.cents = b.cents := by cases a; cases b; simp [and_assoc]
instance : DecidableEq Cgx := fun _ _ => decidable_of_iff _ cgx_eq.symm
theorem c55 (l m : List Cgx) (hl : l.length ≤ 2^40) : FSpec Tryz.prog 55 [.d (cgxs l), .d (cgxs m)] [] (fun x r => x = .d (.bool (decide (l = m))) ∧ r = []) := by
 refine spec_of hT (C := []) Tryz.func55 rfl Tryz.call55 rfl rfl rfl ?_
 conv => whnf
 repeat' (first | (refine br_intro ?_ ?_ <;> intro hb <;> (try simp only [brs] at hb) <;> conv => whnf) | (refine RegX.rule (id := 6) hT rfl [] oTCgF55_6 (by decide +kernel) ?_; conv => whnf) | omega | (refine And.intro ?_ ?_; ((try dsimp only); first | omega | (refine szA rfl ?_; omega) | (refine szB rfl ?_; omega) | (unfold inI64; omega) | exact rfl | (simp only [lns] at *; omega) | decide | (unfold inI64; decide)); conv => whnf) | decide | assumption)
 · refine .ret _ ?_
   conv => whnf
   refine ⟨[], ⟨?_, rfl⟩, trivial⟩
   conv => lhs; whnf
   have : ¬ l = m := fun q => by subst q; simp at hb
   simp [this]
 have hlen : l.length = m.length := by
  omega
 refine LoopX.rule hT (C := []) (ι := Nat) (fun i => i ≤ l.length ∧ ∀ j, j < i → l.getD j cg0 = m.getD j cg0) (fun i => mkSt [(0, .d (cgxs l)), (1, .d (cgxs m)), (12, .d (.int .i64 l.length)), (13, .d (.int .i64 i))] []) (fun i => l.length - i) 0 ⟨by omega, by omega⟩ (by (refine Entails.mk' [] rfl rfl ?_ ?_ <;> repeat' (first | exact True.intro | exact lr | exact rr | exact SV.le_int (by omega) | exact SV.le_any _ | refine And.intro ?_ ?_)); done) ?_
 rintro i ⟨p1, p2⟩
 have e1 : (i : Int).toNat = i := Int.toNat_natCast i
 conv => whnf
 repeat' (first | (refine br_intro ?_ ?_ <;> intro hb <;> (try simp only [brs] at hb) <;> conv => whnf) | (refine RegX.rule (id := 6) hT rfl [] oTCgF55_6 (by decide +kernel) ?_; conv => whnf) | omega | (refine And.intro ?_ ?_; ((try dsimp only); first | omega | (refine szA rfl ?_; omega) | (refine szB rfl ?_; omega) | (unfold inI64; omega) | exact rfl | (simp only [lns] at *; omega) | decide | (unfold inI64; decide)); conv => whnf) | decide | assumption)
 · refine .ret _ ?_
   conv => whnf
   refine ⟨[], ⟨?_, rfl⟩, trivial⟩
   conv => lhs; whnf
   have : ¬ l = m := fun q => by subst q; simp at hb
   simp [this]
 · exact ⟨i + 1, ⟨by omega, all_step p2 (by rw [cgx_eq]; simpa [and_assoc] using hb)⟩, by omega, (by (refine Entails.mk' [] rfl rfl ?_ ?_ <;> repeat' (first | exact True.intro | exact lr | exact rr | exact SV.le_int (by omega) | exact SV.le_any _ | refine And.intro ?_ ?_)); done)⟩
 · refine .ret _ ?_
   conv => whnf
   refine ⟨[], ⟨?_, rfl⟩, trivial⟩
   conv => lhs; whnf
   have : i = l.length := by omega
   subst this
   simp [eq_of_getD cg0 hlen p2]
set_option maxHeartbeats 8000000 in
theorem z7 (n : Nat) (L : Nat → Int) (hn : n ≤ maxLen) (hl : ∀ i, -2^63 ≤ L i ∧ L i < 2^63) : FSpec Tryz.prog 7 [.d (.ro 1 n fun i => [.int .i64 (L i)])] [] (fun x r => x = .d (.bool true) ∧ r = []) := by
 have hL : Rok n L := ⟨hn, hl⟩
 refine spec_of hT (C := []) Tryz.func7 rfl Tryz.call7 rfl rfl rfl ?_
 conv => whnf
 repeat' (first | (refine CallX.of (sFlt n L hL _ ?_ ?_) [(1000000, 14)] rfl ⟨lr, trivial⟩ ⟨rr, trivial⟩ rfl rfl ?_; rotate_right; rintro xx rout ⟨⟨f, hf, rfl⟩, ⟨c, c1, c2, rfl⟩⟩; refine ⟨rfl, ?_⟩; conv => whnf) | (refine CallX.of (s64 n L hL _ ?_ ?_ 0 3 ?_ ?_ ?_ ?_) [(1000000, 14)] rfl ⟨lr, lr, lr, trivial⟩ ⟨rr, trivial⟩ rfl rfl ?_; rotate_right; rintro x rout ⟨⟨m, hm0, hm1, rfl⟩, ⟨c, c1, c2, rfl⟩⟩; refine ⟨rfl, ?_⟩; conv => whnf) | (refine CallX.of (sHirs n L hL _ ?_ ?_ m ?_ ?_) [(1000000, 14)] rfl ⟨lr, lr, trivial⟩ ⟨rr, trivial⟩ rfl rfl ?_; rotate_right; rintro xx rout ⟨⟨h, hl5, rfl⟩, ⟨c, c5, c6, rfl⟩⟩; refine ⟨rfl, ?_⟩; conv => whnf) | (refine CallX.of (s62 n L hL _ ?_ ?_) [(1000000, 14)] rfl ⟨lr, trivial⟩ ⟨rr, trivial⟩ rfl rfl ?_; rotate_right; rintro xx rout ⟨⟨g, hg, rfl⟩, ⟨c, c7, c8, rfl⟩⟩; refine ⟨rfl, ?_⟩; conv => whnf) | (refine CallX.of (s13 n L hL _ ?_ ?_) [(1000000, 14)] rfl ⟨lr, trivial⟩ ⟨rr, trivial⟩ rfl rfl ?_; rotate_right; rintro xx rout ⟨⟨D, C, F, rfl⟩, ⟨c, c11, c12, rfl⟩⟩; refine ⟨rfl, ?_⟩; conv => whnf) | (refine CallX.of (s64 n L hL _ ?_ ?_ 0 12 ?_ ?_ ?_ ?_) [(1000000, 14)] rfl ⟨lr, lr, lr, trivial⟩ ⟨rr, trivial⟩ rfl rfl ?_; rotate_right; rintro x rout ⟨⟨m2, hm3, hm4, rfl⟩, ⟨c, c1, c2, rfl⟩⟩; refine ⟨rfl, ?_⟩; conv => whnf) | (refine CallX.of (s63 n L hL _ ?_ ?_ m2 ?_ ?_) [(1000000, 14)] rfl ⟨lr, lr, trivial⟩ ⟨rr, trivial⟩ rfl rfl ?_; rotate_right; rintro xx rout ⟨⟨x, hx, rfl⟩, ⟨c, c9, c10, rfl⟩⟩; refine ⟨rfl, ?_⟩; conv => whnf) | (refine br_intro ?_ ?_ <;> intro hb <;> (try simp only [brs] at hb) <;> conv => whnf) | (refine RegX.rule (id := 4) hT rfl [] oTCgF7_4 (by decide +kernel) ?_; conv => whnf) | omega | (refine And.intro ?_ ?_; ((try dsimp only); first | omega | (refine szA rfl ?_; omega) | (refine szB rfl ?_; omega) | (unfold inI64; omega) | exact rfl | (simp only [lns] at *; omega) | decide | (unfold inI64; decide)); conv => whnf) | decide | assumption)
 have hok : hiOk h := ⟨by have := hl5.1; omega, fun y hy => hiB_K (hl5.2 y hy) (by omega)⟩
 have hlg : ∀ y ∈ h, y.legs.length ≤ 2^40 := fun y hy => (hok.2 y hy).2.2.1
 have hgk : gOk g := ⟨by have := hg.1; omega, fun y hy => ⟨by have := (hg.2 y hy).1; omega, by have := (hg.2 y hy).2; omega⟩⟩
 have hxk : pOk x := ⟨by have := hx.1; omega, fun y hy => ⟨by have := (hx.2 y hy).1; omega, by have := (hx.2 y hy).2.1; omega⟩⟩
 have hxl : x.length < 20 := by have := hx.1; omega
 have C53 := c53 f hf.ok h hok hlg g hgk D C F x hxk hxl
 have C21 := z21 f hf.ok
 have C22 := z81 h hok
 have C45 := s67 g x hgk hxk
 have CE := s17 [fltE f, hirsE h, tollE D C F, chkE g x] (by simp)
 rw [show firstE [fltE f, hirsE h, tollE D C F, chkE g x] = cgE f h g D C F x from rfl] at CE
 by_cases E : cgE f h g D C F x = 0
 · have C56 := c56 f h hok.1 hlg g D C F x E
   have hcl : (cgR2 f h g D C x).length ≤ 2^40 := by
    have := cgL_len f h g D x x.length
    unfold cgR2; split <;> simp [CgC.out, cgC] <;> omega
   have C55 := c55 (cgR2 f h g D C x) (cgR2 f h g D C x) hcl
   rw [if_neg (by omega)] at C53
   rw [E] at CE
   repeat' (first | (refine CallX.exact (C53) rfl rfl ?_; rotate_right; conv => whnf) | (refine CallX.exact (C21) rfl rfl ?_; rotate_right; conv => whnf) | (refine CallX.exact (C22) rfl rfl ?_; rotate_right; conv => whnf) | (refine CallX.exact (s18 D C F) rfl rfl ?_; rotate_right; conv => whnf) | (refine CallX.exact (C45) rfl rfl ?_; rotate_right; conv => whnf) | (refine CallX.pure CE ⟨SV.le_lit (by rfl) (by rfl), trivial⟩ rfl ?_; conv => whnf) | (refine CallX.exact (C56) rfl rfl ?_; rotate_right; conv => whnf) | (refine CallX.exact (C55) rfl rfl ?_; rotate_right; conv => whnf) | (refine CallX.exact (s24) rfl rfl ?_; rotate_right; conv => whnf) | (refine br_intro ?_ ?_ <;> intro hb <;> (try simp only [brs] at hb) <;> conv => whnf) | (refine RegX.rule (id := 4) hT rfl [] oTCgF7_4 (by decide +kernel) ?_; conv => whnf) | omega | (refine And.intro ?_ ?_; ((try dsimp only); first | omega | (refine szA rfl ?_; omega) | (refine szB rfl ?_; omega) | (unfold inI64; omega) | exact rfl | (simp only [lns] at *; omega) | decide | (unfold inI64; decide)); conv => whnf) | decide | assumption)
   refine .ret _ ?_
   conv => whnf
   refine ⟨[], ⟨?_, rfl⟩, trivial⟩
   conv => lhs; whnf
 · rw [if_pos E] at C53
   generalize cgE f h g D C F x = e at C53 CE E
   repeat' (first | (refine CallX.exact (C53) rfl rfl ?_; rotate_right; conv => whnf) | (refine CallX.exact (C21) rfl rfl ?_; rotate_right; conv => whnf) | (refine CallX.exact (C22) rfl rfl ?_; rotate_right; conv => whnf) | (refine CallX.exact (s18 D C F) rfl rfl ?_; rotate_right; conv => whnf) | (refine CallX.exact (C45) rfl rfl ?_; rotate_right; conv => whnf) | (refine CallX.pure CE ⟨SV.le_lit (by rfl) (by rfl), trivial⟩ rfl ?_; conv => whnf) | (refine CallX.exact (s24) rfl rfl ?_; rotate_right; conv => whnf) | (refine br_intro ?_ ?_ <;> intro hb <;> (try simp only [brs] at hb) <;> conv => whnf) | (refine RegX.rule (id := 4) hT rfl [] oTCgF7_4 (by decide +kernel) ?_; conv => whnf) | omega | (refine And.intro ?_ ?_; ((try dsimp only); first | omega | (refine szA rfl ?_; omega) | (refine szB rfl ?_; omega) | (unfold inI64; omega) | exact rfl | (simp only [lns] at *; omega) | decide | (unfold inI64; decide)); conv => whnf) | decide | assumption)
   refine .ret _ ?_
   conv => whnf
   refine ⟨[], ⟨?_, rfl⟩, trivial⟩
   conv => lhs; whnf
end Go.Proofs.YtcjfniddeibbhaaGreatDoor
