/- NoticesName is proved: for every input the law returns true, and its argument reads afterwards as it read before. Conditions: those of the given row alone. -/
import Derived.Test.YtcjfniddeibbhaaGreatDoorNnConTri
import Derived.Test.YtcjfniddeibbhaaGreatDoorNnConTwo
import Derived.Test.YtcjfniddeibbhaaGreatDoorNnConOne
import Derived.Test.YtcjfniddeibbhaaGreatDoorNnEngTwo
import Derived.Sort.OwnSortedInts
import Derived.Shelf.Sort.Plain
import Derived.Test.YtcjfniddeibbhaaGreatDoorProg
set_option linter.unusedVariables false
set_option linter.unusedSimpArgs false
set_option maxRecDepth 20000
namespace Go.Proofs.YtcjfniddeibbhaaGreatDoor
open Go Go.Eng
def oTFlN251_4 : List (Nat × List Nat) := [(0, []), (1, [0]), (2, []), (3, []), (4, []), (5, [4]), (6, [4, 5]), (7, [4]), (8, [4]), (9, [4, 5, 6, 7, 8]), (10, [4, 5, 6, 7, 8, 9]), (11, [4, 5, 6, 7, 8, 9]), (12, [4, 5, 6, 7, 8]), (13, [4, 5, 6, 7, 8]), (14, []), (15, []), (16, [])]
def oTFlN251_6 : List (Nat × List Nat) := [(0, []), (1, [0]), (2, [0, 1]), (3, [0, 1, 2]), (4, [0, 1, 2]), (5, [0, 1, 2, 3, 4]), (6, [0, 1, 2, 3, 4, 5]), (7, [0, 1, 2, 3, 4, 5]), (8, [0, 1, 2, 3, 4]), (9, [0, 1, 2, 3, 4]), (10, [0, 1, 2, 3, 4, 5, 6, 7, 8, 9]), (11, [0, 1, 2, 3, 4, 5, 6, 7, 8, 9, 10]), (12, [0, 1, 2, 3, 4, 5, 6, 7, 8, 9]), (13, [0, 1, 2, 3, 4, 5, 6, 7, 8, 9]), (14, [2, 3, 4]), (15, [2, 3, 4]), (16, []), (17, [])]
def oTFlN187_17 : List (Nat × List Nat) := [(0, []), (1, []), (2, []), (3, []), (4, [3]), (5, [3, 4]), (6, [3, 4]), (7, [3]), (8, [3]), (9, [3, 4, 5, 6, 7, 8]), (10, [3, 4, 5, 6, 7, 8, 9]), (11, [3, 4, 5, 6, 7, 8]), (12, [3, 4, 5, 6, 7, 8]), (13, []), (14, []), (15, []), (16, [])]
abbrev pltB (l : List Plt) : Res := seqB 126 3 pltF plt0 l
abbrev staB (l : List Sta) : Res := seqB 121 15 staF sta0 l
abbrev vehB (l : List Veh) : Res := seqB 124 2 vehF veh0 l
theorem z137 (l : List Plt) (hl : l.length ≤ 2^20) : FSpec Tryz.prog 137 [.buf 1000001] [(1000001, pltB l)] (fun y r => (y = .d .nilsl ∧ l = [] ∧ r = [(1000001, pltB l)]) ∨ (y = .buf 7 ∧ r = [(7, pltB l), (1000001, pltB l)])) := by
 refine spec_of hT (C := [5]) Tryz.func137 rfl Tryz.call137 rfl rfl rfl ?_
 conv => whnf
 rintro b hbn
 conv => whnf
 repeat' (first | (refine br_intro ?_ ?_ <;> intro hb <;> (try simp only [brs] at hb) <;> conv => whnf) | omega | (refine And.intro ?_ ?_; ((try dsimp only); first | omega | (refine szA rfl ?_; omega) | (refine szB rfl ?_; omega) | (unfold inI64; omega) | (simp only [lns] at *; omega) | decide | (unfold inI64; decide)); conv => whnf) | decide | assumption)
 · have : l = [] := List.eq_nil_of_length_eq_zero (hbn (by assumption))
   refine .ret _ ?_
   conv => whnf
   exact ⟨_, .inl ⟨rfl, this, rfl⟩, rr, trivial⟩
 · refine .ret _ ?_
   conv => whnf
   refine ⟨_, .inr ⟨rfl, rfl⟩, Res.le_buf (by simp) (fun i hi => ?_), rr, trivial⟩
   rw [appGet_ge (by omega)]; rfl
def rfCmp (p q : Plt) : Int := if p.frm ≠ q.frm then p.frm - q.frm else cmpS (p.veh ++ [32] ++ p.plt) (q.veh ++ [32] ++ q.plt)
theorem z139 (p q : Plt) (hp : pltK p) (hq : pltK q) : FSpec Tryz.prog 139 [.agg ((pltF p).map .d), .agg ((pltF q).map .d)] [] (fun y r => y = .d (.int .i64 (rfCmp p q)) ∧ r = []) := by
 have h1 := hp.2.1
 have h2 := hp.2.2
 have h3 := hq.2.1
 have h4 := hq.2.2
 have h5 := hp.1
 have h6 := hq.1
 refine spec_of hT (C := []) Tryz.func139 rfl Tryz.call139 rfl rfl rfl ?_
 conv => whnf
 repeat' (first | (refine CallX.exact (s190 _ _) rfl rfl ?_; rotate_right; conv => whnf) | (refine br_intro ?_ ?_ <;> intro hb <;> (try simp only [brs] at hb) <;> conv => whnf) | omega | (refine And.intro ?_ ?_; ((try dsimp only); first | omega | (refine szA rfl ?_; omega) | (refine szB rfl ?_; omega) | (unfold inI64; omega) | (simp only [lns] at *; omega) | decide | (unfold inI64; decide)); conv => whnf) | decide | assumption)
 all_goals
  refine .ret _ ?_
  conv => whnf
  refine ⟨[], ⟨?_, rfl⟩, trivial⟩
  conv => lhs; whnf
  congr 2
  unfold rfCmp
  first | (rw [if_pos (by simpa using hb)]; done) | (rw [if_neg (by simpa using hb)]; done)
theorem swap_midPl {A B : List Plt} {x y : Plt} {D b : List Plt} {j : Nat} (hb : (y :: A).reverse ++ [x] ++ B ++ D = b) (hj : j = A.length + 1) :
 b.getD j plt0 = x ∧ b.getD (j - 1) plt0 = y ∧ (b.set j y).set (j - 1) x = A.reverse ++ [x] ++ (y :: B) ++ D := by
 subst hj
 refine ⟨?_, ?_, ?_⟩
 · rw [← hb, show (y :: A).reverse ++ [x] ++ B ++ D = (y :: A).reverse ++ x :: (B ++ D) by simp]
   exact getD_mid _ _ _ _ (by simp)
 · rw [← hb, show (y :: A).reverse ++ [x] ++ B ++ D = A.reverse ++ y :: ([x] ++ B ++ D) by simp]
   exact getD_mid _ _ _ _ (by simp)
 · rw [← hb]
   have := swap_lemma A.reverse (B ++ D) x y
   simp only [List.length_reverse] at this
   simp only [List.reverse_cons, List.append_assoc, List.singleton_append, List.cons_append, List.nil_append, Nat.add_sub_cancel] at this ⊢
   exact this
theorem sInsPl (g : FuncId) (cmp : Plt → Plt → Int) (l : List Plt) (hl : l.length ≤ 2^40)
 (hcmp : ∀ p q, p ∈ l → q ∈ l → FSpec Tryz.prog g [.agg ((pltF p).map .d), .agg ((pltF q).map .d)] [] (fun y r => y = .d (.int .i64 (cmp p q)) ∧ r = [])) :
 FSpec Tryz.prog 251 [.buf 1000001, .d (.int .i64 0), .d (.int .i64 l.length), .fn g []] [(1000001, seqB 126 3 pltF plt0 l)]
  (fun y r => y = .tup [] ∧ r = [(1000001, seqB 126 3 pltF plt0 (isort cmp l))]) := by
 refine spec_of hT (C := []) Tryz.func251 rfl Tryz.call251 rfl rfl rfl ?_
 conv => whnf
 repeat' (first | (refine br_intro ?_ ?_ <;> intro hb <;> (try simp only [brs] at hb) <;> conv => whnf) | (refine RegX.rule (id := 4) hT rfl [] oTFlN251_4 (by decide +kernel) ?_; conv => whnf) | (refine RegX.rule (id := 6) hT rfl [] oTFlN251_6 (by decide +kernel) ?_; conv => whnf) | omega | (refine And.intro ?_ ?_; ((try dsimp only); first | omega | (refine szA rfl ?_; omega) | (refine szB rfl ?_; omega) | (unfold inI64; omega) | (simp only [lns] at *; omega) | decide | (unfold inI64; decide)); conv => whnf) | decide | assumption)
 refine LoopX.rule hT (C := []) (ι := Nat × List Plt) (fun (i, c) => 1 ≤ i ∧ (i ≤ l.length ∨ i = 1) ∧ c = (isortR cmp (l.take i)).reverse ++ l.drop i)
  (fun (i, c) => mkSt [(0, .buf 1000001), (1, .d (.int .i64 0)), (2, .d (.int .i64 l.length)), (3, .fn g []), (8, .d (.int .i64 i))] [(1000001, seqB 126 3 pltF plt0 c)])
  (fun (i, _) => l.length - i) (1, l) ⟨by simp, by simp, by cases l with | nil => rfl | cons x l => simp [isortR, insR]⟩ (by (refine Entails.mk' [(1000001, 1000001)] rfl rfl ?_ ?_ <;> repeat' (first | exact True.intro | exact lr | exact rr | exact SV.le_int (by omega) | exact SV.le_any _ | refine And.intro ?_ ?_)); done) ?_
 rintro ⟨i, c⟩ ⟨p1, p2, p3⟩
 conv => whnf
 repeat' (first | (refine br_intro ?_ ?_ <;> intro hb <;> (try simp only [brs] at hb) <;> conv => whnf) | (refine RegX.rule (id := 4) hT rfl [] oTFlN251_4 (by decide +kernel) ?_; conv => whnf) | (refine RegX.rule (id := 6) hT rfl [] oTFlN251_6 (by decide +kernel) ?_; conv => whnf) | omega | (refine And.intro ?_ ?_; ((try dsimp only); first | omega | (refine szA rfl ?_; omega) | (refine szB rfl ?_; omega) | (unfold inI64; omega) | (simp only [lns] at *; omega) | decide | (unfold inI64; decide)); conv => whnf) | decide | assumption)
 · have hi : i < l.length := by omega
   have hx : l[i] ∈ l := List.getElem_mem hi
   have hmem : ∀ y ∈ isortR cmp (l.take i), y ∈ l := fun y hy => List.mem_of_mem_take ((isortR_mem cmp _).1 hy)
   have hlr : (isortR cmp (l.take i)).length = i := by rw [isortR_length, List.length_take]; omega
   have hc : c = (isortR cmp (l.take i)).reverse ++ [l[i]] ++ [] ++ l.drop (i + 1) := by rw [p3, List.drop_eq_getElem_cons hi]; simp
   refine LoopX.rule hT (C := []) (ι := List Plt × List Plt × List Plt) (fun (A, B, b) => insR cmp l[i] (isortR cmp (l.take i)) = B.reverse ++ insR cmp l[i] A ∧ A.length + B.length = i ∧ (∀ y ∈ A, y ∈ l) ∧ A.reverse ++ [l[i]] ++ B ++ l.drop (i + 1) = b)
    (fun (A, B, b) => mkSt [(0, .buf 1000001), (1, .d (.int .i64 0)), (2, .d (.int .i64 l.length)), (3, .fn g []), (8, .d (.int .i64 i)), (9, .d (.int .i64 A.length))] [(1000001, seqB 126 3 pltF plt0 b)])
    (fun (A, _, _) => A.length) (isortR cmp (l.take i), [], c) ⟨by simp, by simpa using hlr, hmem, hc.symm⟩ ?_ ?_
   · exact Entails.mk' [(1000001, 1000001)] rfl rfl ⟨lr, lr, lr, lr, lr, SV.le_int (by omega), trivial⟩ ⟨rr, trivial⟩
   rintro ⟨A, B, b⟩ ⟨q1, q2, q3, hbd⟩
   have hlen : b.length = l.length := by rw [← hbd]; simp; omega
   have hfin : A = [] ∨ (∃ y A', A = y :: A' ∧ 0 ≤ cmp l[i] y) → isortR cmp (l.take (i + 1)) = B.reverse ++ l[i] :: A ∧ b = (isortR cmp (l.take (i + 1))).reverse ++ l.drop (i + 1) := fun h => by
    have e : isortR cmp (l.take (i + 1)) = B.reverse ++ l[i] :: A := by
     rw [take_snoc hi, isortR_snoc, q1]
     rcases h with rfl | ⟨y, A', rfl, h⟩
     · rfl
     · rw [insR, if_neg (by omega)]
    exact ⟨e, by rw [e, ← hbd]; simp⟩
   conv => whnf
   repeat' (first | (refine br_intro ?_ ?_ <;> intro hb <;> (try simp only [brs] at hb) <;> conv => whnf) | (refine RegX.rule (id := 4) hT rfl [] oTFlN251_4 (by decide +kernel) ?_; conv => whnf) | (refine RegX.rule (id := 6) hT rfl [] oTFlN251_6 (by decide +kernel) ?_; conv => whnf) | omega | (refine And.intro ?_ ?_; ((try dsimp only); first | omega | (refine szA rfl ?_; omega) | (refine szB rfl ?_; omega) | (unfold inI64; omega) | (simp only [lns] at *; omega) | decide | (unfold inI64; decide)); conv => whnf) | decide | assumption)
   · cases A with
     | nil => simp at hb
     | cons y A =>
     obtain ⟨g1, g2, g3⟩ := swap_midPl (j := (((y :: A).length : Int)).toNat) hbd (by simp)
     have ej : ((((y :: A).length : Int)) - 1).toNat = (((y :: A).length : Int)).toNat - 1 := by omega
     refine CallX.of (hcmp l[i] y hx (q3 y (by simp))) [] rfl ⟨by rw [← g1]; exact lr, by rw [← g2, ← ej]; exact lr, trivial⟩ trivial rfl rfl ?_
     rintro x rout ⟨rfl, rfl⟩
     refine ⟨rfl, ?_⟩
     conv => whnf
     repeat' (first | (refine br_intro ?_ ?_ <;> intro hb <;> (try simp only [brs] at hb) <;> conv => whnf) | (refine RegX.rule (id := 4) hT rfl [] oTFlN251_4 (by decide +kernel) ?_; conv => whnf) | (refine RegX.rule (id := 6) hT rfl [] oTFlN251_6 (by decide +kernel) ?_; conv => whnf) | omega | (refine And.intro ?_ ?_; ((try dsimp only); first | omega | (refine szA rfl ?_; omega) | (refine szB rfl ?_; omega) | (unfold inI64; omega) | (simp only [lns] at *; omega) | decide | (unfold inI64; decide)); conv => whnf) | decide | assumption)
     · refine ⟨(A, y :: B, _), ⟨by rw [q1]; simp [insR, hb], by simp only [List.length_cons] at q2 ⊢; omega, fun z hz => q3 z (by simp [hz]), ?_⟩, by show A.length < (y :: A).length; simp, Entails.mk' [(1000001, 1000001)] rfl rfl ⟨lr, lr, lr, lr, lr, SV.le_int (by simp only [List.length_cons]; omega), trivial⟩ ⟨Res.le_put2 (x := b.getD ((((y :: A).length : Int)) - 1).toNat plt0) (y := b.getD (((y :: A).length : Int)).toNat plt0) (fun _ => rfl) (fun _ => rfl), trivial⟩⟩
       rw [← g3, ej, g1, g2]
     · obtain ⟨_, h2⟩ := hfin (.inr ⟨y, A, rfl, hb⟩)
       exact ⟨(i + 1, b), ⟨by omega, by omega, h2⟩, by show l.length - (i + 1) < l.length - i; omega, (by (refine Entails.mk' [(1000001, 1000001)] rfl rfl ?_ ?_ <;> repeat' (first | exact True.intro | exact lr | exact rr | exact SV.le_int (by omega) | exact SV.le_any _ | refine And.intro ?_ ?_)); done)⟩
   · have hA : A = [] := List.length_eq_zero_iff.1 (by omega)
     obtain ⟨_, h2⟩ := hfin (.inl hA)
     exact ⟨(i + 1, b), ⟨by omega, by omega, h2⟩, by show l.length - (i + 1) < l.length - i; omega, (by (refine Entails.mk' [(1000001, 1000001)] rfl rfl ?_ ?_ <;> repeat' (first | exact True.intro | exact lr | exact rr | exact SV.le_int (by omega) | exact SV.le_any _ | refine And.intro ?_ ?_)); done)⟩
 · refine .ret _ ?_
   conv => whnf
   have e1 : c = isort cmp l := by
    rw [p3, List.take_of_length_le (by omega), List.drop_eq_nil_iff.2 (by omega), List.append_nil]; rfl
   subst e1
   exact ⟨_, ⟨rfl, rfl⟩, rr, trivial⟩
theorem sPdqPl (g : FuncId) (cmp : Plt → Plt → Int) (l : List Plt) (hl : l.length ≤ 12) (lim : Int)
 (hcmp : ∀ p q, p ∈ l → q ∈ l → FSpec Tryz.prog g [.agg ((pltF p).map .d), .agg ((pltF q).map .d)] [] (fun y r => y = .d (.int .i64 (cmp p q)) ∧ r = [])) :
 FSpec Tryz.prog 187 [.buf 1000001, .d (.int .i64 0), .d (.int .i64 l.length), .d (.int .i64 lim), .fn g []] [(1000001, seqB 126 3 pltF plt0 l)]
  (fun y r => y = .tup [] ∧ r = [(1000001, seqB 126 3 pltF plt0 (isort cmp l))]) := by
 refine spec_of hT (C := []) Tryz.func187 rfl Tryz.call187 rfl rfl rfl ?_
 conv => whnf
 refine LoopX.unroll hT (C := []) (fun _ _ h => h) (fun _ h => h) ?_
 conv => whnf
 repeat' (first | (refine br_intro ?_ ?_ <;> intro hb <;> (try simp only [brs] at hb) <;> conv => whnf) | (refine RegX.rule (id := 17) hT rfl [] oTFlN187_17 (by decide +kernel) ?_; conv => whnf) | omega | (refine And.intro ?_ ?_; ((try dsimp only); first | omega | (refine szA rfl ?_; omega) | (refine szB rfl ?_; omega) | (unfold inI64; omega) | (simp only [lns] at *; omega) | decide | (unfold inI64; decide)); conv => whnf) | decide | assumption)
 refine CallX.of (sInsPl g cmp l (by omega) hcmp) [(1000001, 1000001)] rfl ⟨lr, lr, lr, lr, trivial⟩ ⟨rr, trivial⟩ rfl rfl ?_
 rintro x rout ⟨rfl, rfl⟩
 refine ⟨rfl, ?_⟩
 conv => whnf
 refine .ret _ ?_
 conv => whnf
 exact ⟨_, ⟨rfl, rfl⟩, rr, trivial⟩
theorem sSortPl (g : FuncId) (cmp : Plt → Plt → Int) (l : List Plt) (hl : l.length ≤ 12)
 (hcmp : ∀ p q, p ∈ l → q ∈ l → FSpec Tryz.prog g [.agg ((pltF p).map .d), .agg ((pltF q).map .d)] [] (fun y r => y = .d (.int .i64 (cmp p q)) ∧ r = [])) :
 FSpec Tryz.prog 138 [.buf 1000001, .fn g []] [(1000001, seqB 126 3 pltF plt0 l)]
  (fun y r => y = .tup [] ∧ r = [(1000001, seqB 126 3 pltF plt0 (isort cmp l))]) := by
 refine spec_of hT (C := []) Tryz.func138 rfl Tryz.call138 rfl rfl rfl ?_
 conv => whnf
 repeat' (first | (refine br_intro ?_ ?_ <;> intro hb <;> (try simp only [brs] at hb) <;> conv => whnf) | omega | (refine And.intro ?_ ?_; ((try dsimp only); first | omega | (refine szA rfl ?_; omega) | (refine szB rfl ?_; omega) | (unfold inI64; omega) | (simp only [lns] at *; omega) | decide | (unfold inI64; decide)); conv => whnf) | decide | assumption)
 refine CallX.of (sBitsLen l.length hl) [] rfl ⟨lr, trivial⟩ trivial rfl rfl ?_
 rintro x rout ⟨⟨lim, rfl⟩, rfl⟩
 refine ⟨rfl, ?_⟩
 conv => whnf
 repeat' (first | (refine br_intro ?_ ?_ <;> intro hb <;> (try simp only [brs] at hb) <;> conv => whnf) | omega | (refine And.intro ?_ ?_; ((try dsimp only); first | omega | (refine szA rfl ?_; omega) | (refine szB rfl ?_; omega) | (unfold inI64; omega) | (simp only [lns] at *; omega) | decide | (unfold inI64; decide)); conv => whnf) | decide | assumption)
 refine CallX.of (sPdqPl g cmp l hl lim hcmp) [(1000001, 1000001)] rfl ⟨lr, lr, lr, lr, lr, trivial⟩ ⟨rr, trivial⟩ rfl rfl ?_
 rintro x rout ⟨rfl, rfl⟩
 refine ⟨rfl, ?_⟩
 conv => whnf
 refine .ret _ ?_
 conv => whnf
 exact ⟨_, ⟨rfl, rfl⟩, rr, trivial⟩
theorem lookL_all {P : Res → Prop} : ∀ {l : List (Nat × Res)}, (∀ p ∈ l, P p.2) → ∀ c q, lookL l c = some q → P q := by
 intro l
 induction l with
 | nil => intro _ c q h; cases h
 | cons p l ih =>
   intro hp c q h
   simp only [lookL] at h
   by_cases e : c = p.1
   · subst e; simp at h; subst h; exact hp p (by simp)
   · rw [nbeq_ne e] at h; exact ih (fun x hx => hp x (by simp [hx])) c q h
theorem flat_pl (l : List Plt) : (pltB l).flat := fun _ _ => rfl
theorem flat_ve (l : List Veh) : (vehB l).flat := fun _ _ => rfl
theorem z21l (f : Flt) (hk : fltOk f) : FSpec Tryz.prog 21 [.agg [.buf 1, .d (clss f.cls), .buf 3, .buf 4]] [(1, staB f.sta), (3, vehB f.veh), (4, pltB f.plt)]
 (fun x r => x = .d (.int .i64 (fltE f)) ∧ r = [(1, staB f.sta), (3, vehB f.veh), (4, pltB f.plt)]) := by
 have h1 := FSpec.lend (args := [.agg [.d (stas f.sta), .d (clss f.cls), .d (vehs f.veh), .buf 4]]) 4 126 3 f.plt.length (rowF pltF plt0 f.plt) (z21 f hk) rfl (fun c r q => nomatch q) rfl
  (fun x r h => by obtain ⟨rfl, rfl⟩ := h; exact ⟨rfl, fun c q e => (nomatch e), rfl⟩)
 have h2 := FSpec.lend (args := [.agg [.d (stas f.sta), .d (clss f.cls), .buf 3, .buf 4]]) 3 124 2 f.veh.length (rowF vehF veh0 f.veh) h1 rfl
  (lookL_all (P := Res.isBuf) (fun p hp => by rw [List.mem_singleton] at hp; subst hp; exact trivial)) rfl
  (fun x r h => by obtain ⟨r0, ⟨rfl, rfl⟩, rfl⟩ := h; exact ⟨rfl, lookL_all (P := Res.flat) (fun p hp => by rw [List.mem_singleton] at hp; subst hp; exact flat_pl _), rfl⟩)
 have h3 := FSpec.lend (args := [.agg [.buf 1, .d (clss f.cls), .buf 3, .buf 4]]) 1 121 15 f.sta.length (rowF staF sta0 f.sta) h2 rfl
  (lookL_all (P := Res.isBuf) (fun p hp => by simp only [List.mem_cons, List.not_mem_nil, or_false] at hp; rcases hp with rfl | rfl <;> exact trivial)) rfl
  (fun x r h => by
    obtain ⟨r1, ⟨r0, ⟨rfl, rfl⟩, rfl⟩, rfl⟩ := h
    exact ⟨rfl, lookL_all (P := Res.flat) (fun p hp => by simp only [List.mem_cons, List.not_mem_nil, or_false] at hp; rcases hp with rfl | rfl; exact flat_ve _; exact flat_pl _), rfl⟩)
 exact h3.mono (fun x r h => by obtain ⟨r2, ⟨r1, ⟨r0, ⟨rfl, rfl⟩, rfl⟩, rfl⟩, rfl⟩ := h; exact ⟨rfl, rfl⟩)
def oTFlO57_8 : List (Nat × List Nat) := [(0, []), (1, []), (2, [0, 1]), (3, [0, 1, 2]), (4, [0, 1, 2]), (5, [0, 1, 2, 3, 4]), (6, [0, 1, 2, 3, 4, 5]), (7, [0, 1, 2, 3, 4, 5]), (8, [0, 1, 2, 3, 4, 5]), (9, [0, 1, 2, 3, 4]), (10, [0, 1, 2]), (11, [0, 1, 2]), (12, [0, 1, 2]), (13, [0, 1]), (14, [0, 1]), (15, []), (16, []), (17, [])]
def oTFlO57_13 : List (Nat × List Nat) := [(0, []), (1, [0]), (3, [0, 1]), (4, [0, 1]), (5, [0, 1, 3, 4]), (6, [0, 1, 3, 4, 5]), (7, [0, 1, 3, 4, 5]), (8, [0, 1, 3, 4, 5]), (13, [0, 1, 3, 4, 5, 6, 7, 8]), (14, [0, 1, 3, 4, 5, 6, 7, 8, 13]), (17, [0, 1, 3, 4, 5, 6, 7, 8, 13, 14]), (2, [3, 4, 5, 6, 7, 8, 13, 14, 17]), (9, [3, 4, 13, 14, 17]), (10, [13, 14, 17]), (11, [13, 14, 17]), (12, [13, 14, 17]), (15, [3, 4, 17, 10, 11, 12]), (16, [17]), (18, [])]
def oTFlO57_14 : List (Nat × List Nat) := [(0, []), (1, []), (3, [0, 1]), (4, [0, 1]), (2, [3, 4]), (5, []), (6, [])]
def v4 : List (List UInt8) := [[118, 49], [118, 50], [118, 51], [118, 52]]
def rfC (c : List Cls) : Res := .cells 31 [.buf 10, .d (clss c), .buf 20, .buf 30]
def rfC0 (c : List Cls) : Res := .cells 31 [.buf 10, .d (clss c), .buf 20, .d .nilsl]
def nlC : Res := .cells 31 [.d .nilsl, .d .nilsl, .d .nilsl, .d .nilsl]
def fltB (st : List Sta) (c : List Cls) (vs : List Veh) (ps : List Plt) : Prop := allK staK 3 st ∧ (c.length = 4 ∧ ∀ x ∈ c, clsK x) ∧ allK vehK 4 vs ∧ allK pltK 5 ps
theorem LoopX.shareX {α : Type} {P : Program} {c : Code} {Q : Exit → St → Prop} {G : Prop} (σ : α → St) (pre : α → Prop) (main : (∀ a, pre a → LoopX P c Q (σ a)) → G) (tail : ∀ a, pre a → LoopX P c Q (σ a)) : G := main tail
def sta1 : List Sta := [⟨[115, 49], fun _ => 0⟩]
set_option maxHeartbeats 4000000 in
theorem sRFlt (n : Nat) (L : Nat → Int) (hL : Rok n L) (a : Int) (h0 : 0 ≤ a) (ha : a ≤ 2^35) :
 FSpec Tryz.prog 57 [.ptr 1000000 0] [(1000000, strm n L a)] (fun y r => ∃ st cs vs ps, ∃ b, fltB st cs vs ps ∧ (a ≤ b ∧ b ≤ a + 400) ∧ y = .agg [.buf 10, .d (clss cs), .buf 20, .buf 30] ∧ r = [(10, staB st), (20, vehB vs), (30, pltB ps), (1000000, strm n L b)]) := by
 refine spec_of hT (C := [19]) Tryz.func57 rfl Tryz.call57 rfl rfl rfl ?_
 conv => whnf
 refine CallX.of (sStas n L hL a h0 (by omega)) [(1000000, 1000000), (3, 10)] rfl ⟨lr, trivial⟩ ⟨rr, trivial⟩ rfl rfl ?_
 rintro x rout ⟨st, b1, hst, ⟨b1a, b1b⟩, rfl, rfl⟩
 refine ⟨rfl, ?_⟩
 conv => whnf
 refine CallX.of (sClss n L hL b1 (by omega) (by omega)) [(1000000, 1000000), (9, 12)] rfl ⟨lr, trivial⟩ ⟨rr, trivial⟩ rfl rfl ?_
 rintro x rout ⟨cs, b2, hc, ⟨b2a, b2b⟩, rfl, rfl⟩
 refine ⟨rfl, ?_⟩
 conv => whnf
 refine' LoopX.shareX (P := Tryz.prog) (α := List Sta) (fun st => mkSt [(0, .ptr 1000000 0), (2, .ptr 2 0), (3, .ptr 3 0), (21, .d (strs v4)), (22, .d (.int .i64 4)), (23, .d (.int .i64 0))] [(1000000, strm n L b2), (2, nlC), (3, rfC0 cs), (10, staB st), (20, vehB [])]) (fun st => allK staK 3 st) ?main ?tail
 case main =>
  intro tail
  repeat' (first | (refine br_intro ?_ ?_ <;> intro hb <;> (try simp only [brs] at hb) <;> conv => whnf) | (refine RegX.rule (id := 8) hT rfl [] oTFlO57_8 (by decide +kernel) ?_; conv => whnf) | (refine RegX.rule (id := 13) hT rfl [] oTFlO57_13 (by decide +kernel) ?_; conv => whnf) | (refine RegX.rule (id := 14) hT rfl [] oTFlO57_14 (by decide +kernel) ?_; conv => whnf) | omega | (refine And.intro ?_ ?_; ((try dsimp only); first | omega | (refine szA rfl ?_; omega) | (refine szB rfl ?_; omega) | (unfold inI64; omega) | (simp only [lns] at *; omega) | decide | (unfold inI64; decide)); conv => whnf) | decide | assumption)
  · refine LoopX.freeze 12 201 2 _ _ rfl ?_
    refine LoopX.ent ?_ (tail sta1 ⟨by decide, by intro x hx; simp only [sta1, List.mem_singleton] at hx; subst hx; show _ ≤ 8; decide⟩)
    refine Entails.trans (Entails.froCell 3 12 2 _ 1 _ rfl rfl rfl) ?_
    refine Entails.trans (Entails.nilCell 3 20 124 2 2 (rowF vehF veh0 []) rfl rfl rfl (by decide) rfl) ?_
    exact (Entails.mk' [(1000000, 1000000), (2, 2), (3, 3), (10, 19), (20, 20)] rfl rfl ⟨lr, lr, lr, SV.le_lit rfl rfl, lr, lr, trivial⟩ ⟨rr, rr, Res.le_cellsL ⟨lr, lr, lr, lr, trivial⟩, Res.le_lit rfl rfl, rr, trivial⟩)
  · refine LoopX.freeze 12 201 2 _ _ rfl ?_
    refine LoopX.ent ?_ (tail st hst)
    refine Entails.trans (Entails.froCell 3 12 2 _ 1 _ rfl rfl rfl) ?_
    refine Entails.trans (Entails.nilCell 3 20 124 2 2 (rowF vehF veh0 []) rfl rfl rfl (by decide) rfl) ?_
    exact (Entails.mk' [(1000000, 1000000), (2, 2), (3, 3), (10, 10), (20, 20)] rfl rfl ⟨lr, lr, lr, SV.le_lit rfl rfl, lr, lr, trivial⟩ ⟨rr, rr, Res.le_cellsL ⟨lr, lr, lr, lr, trivial⟩, rr, rr, trivial⟩)
 clear hst st
 intro st hst
 refine LoopX.rule hT (C := []) (ι := Int × List Veh × Nat) (fun (b, vs, i) => (b2 ≤ b ∧ b ≤ b2 + 3 * i ∧ i ≤ 4) ∧ allK vehK i vs)
  (fun (b, vs, i) => mkSt [(0, .ptr 1000000 0), (2, .ptr 2 0), (3, .ptr 3 0), (21, .d (strs v4)), (22, .d (.int .i64 4)), (23, .d (.int .i64 i))] [(1000000, strm n L b), (2, nlC), (3, rfC0 cs), (10, staB st), (20, vehB vs)])
  (fun (_, _, i) => 4 - i) (b2, [], 0) ⟨⟨by simp, by simp, by simp⟩, ⟨by simp, by simp⟩⟩ (by (refine Entails.mk' [(1000000, 1000000), (2, 2), (3, 3), (10, 10), (20, 20)] rfl rfl ?_ ?_ <;> repeat' (first | exact True.intro | exact lr | exact rr | exact SV.le_int (by omega) | exact SV.le_any _ | refine And.intro ?_ ?_)); done) ?_
 rintro ⟨b, vs, i⟩ ⟨⟨p1, p2, p3⟩, p4⟩
 have p1 : b2 ≤ b := p1
 have p2 : b ≤ b2 + 3 * i := p2
 have p3 : i ≤ 4 := p3
 have p4 : allK vehK i vs := p4
 have hl1 : vs.length ≤ i := p4.1
 have hc4 := hc.1
 have hv4 : v4.length = 4 := rfl
 have e1 : (i : Int).toNat = i := Int.toNat_natCast i
 rcases Nat.lt_or_ge i 4 with hi | hi
 · conv => whnf
   repeat' (first | (refine CallX.of (s84 n L hL _ ?_ ?_ 6 ?_) [(1000000, 1000000)] rfl ⟨lr, lr, trivial⟩ ⟨rr, trivial⟩ rfl rfl ?_; rotate_right; rintro x rout ⟨⟨w, rfl⟩, ⟨c, c1, c2, rfl⟩⟩; refine ⟨rfl, ?_⟩; conv => whnf) | (refine CallX.of (s86 n L hL _ ?_ ?_ _ ?_) [(1000000, 1000000)] rfl ⟨lr, lr, trivial⟩ ⟨rr, trivial⟩ rfl rfl ?_; rotate_right; rintro x rout ⟨⟨j, hj1, hj2, hj3, rfl⟩, ⟨c, c1, c2, rfl⟩⟩; refine ⟨rfl, ?_⟩; conv => whnf) | (refine br_intro ?_ ?_ <;> intro hb <;> (try simp only [brs] at hb) <;> conv => whnf) | (refine RegX.rule (id := 8) hT rfl [] oTFlO57_8 (by decide +kernel) ?_; conv => whnf) | (refine RegX.rule (id := 13) hT rfl [] oTFlO57_13 (by decide +kernel) ?_; conv => whnf) | (refine RegX.rule (id := 14) hT rfl [] oTFlO57_14 (by decide +kernel) ?_; conv => whnf) | omega | (refine And.intro ?_ ?_; ((try dsimp only); first | omega | (refine szA rfl ?_; omega) | (refine szB rfl ?_; omega) | (unfold inI64; omega) | (simp only [lns] at *; omega) | decide | (unfold inI64; decide)); conv => whnf) | decide | assumption)
   all_goals try (exfalso; omega)
   · have hk1 : (v4.getD (i : Int).toNat []).length ≤ 8 := mem_len (getD_mem (by omega)) rfl
     have hk2 := (hc.2 (cs.getD j.toNat cls0) (getD_mem (by omega))).1
     exact ⟨(c + 1, vs ++ [⟨v4.getD (i : Int).toNat [], (cs.getD j.toNat cls0).key⟩], i + 1), ⟨⟨by omega, by show _ ≤ b2 + 3 * ((i + 1 : Nat) : Int); omega, by omega⟩, allK_snoc p4 (by omega) ⟨hk1, hk2⟩⟩, by show 4 - (i + 1) < 4 - i; omega,
      Entails.mk' [(1000000, 1000000), (2, 2), (3, 3), (10, 10), (20, 45)] rfl rfl ⟨lr, lr, lr, lr, lr, lr, trivial⟩ ⟨rr, rr, rr, rr, Res.le_snocF rfl, trivial⟩⟩
   · exact ⟨(c, vs, i + 1), ⟨⟨by omega, by show _ ≤ b2 + 3 * ((i + 1 : Nat) : Int); omega, by omega⟩, allK_le p4 (by omega)⟩, by show 4 - (i + 1) < 4 - i; omega, (by (refine Entails.mk' [(1000000, 1000000), (2, 2), (3, 3), (10, 10), (20, 20)] rfl rfl ?_ ?_ <;> repeat' (first | exact True.intro | exact lr | exact rr | exact SV.le_int (by omega) | exact SV.le_any _ | refine And.intro ?_ ?_)); done)⟩
 have hi4 : i = 4 := by omega
 subst hi4
 have hb3 : b ≤ b2 + 12 := by omega
 have p4v := p4
 have hlv : vs.length ≤ 4 := p4.1
 conv => whnf
 repeat' (first | (refine CallX.of (s64 n L hL _ ?_ ?_ 0 5 ?_ ?_ ?_ ?_) [(1000000, 1000000)] rfl ⟨lr, lr, lr, trivial⟩ ⟨rr, trivial⟩ rfl rfl ?_; rotate_right; rintro x rout ⟨⟨m, hm1, hm2, rfl⟩, ⟨c, c1, c2, rfl⟩⟩; refine ⟨rfl, ?_⟩; conv => whnf) | (refine br_intro ?_ ?_ <;> intro hb <;> (try simp only [brs] at hb) <;> conv => whnf) | (refine RegX.rule (id := 8) hT rfl [] oTFlO57_8 (by decide +kernel) ?_; conv => whnf) | (refine RegX.rule (id := 13) hT rfl [] oTFlO57_13 (by decide +kernel) ?_; conv => whnf) | (refine RegX.rule (id := 14) hT rfl [] oTFlO57_14 (by decide +kernel) ?_; conv => whnf) | omega | (refine And.intro ?_ ?_; ((try dsimp only); first | omega | (refine szA rfl ?_; omega) | (refine szB rfl ?_; omega) | (unfold inI64; omega) | (simp only [lns] at *; omega) | decide | (unfold inI64; decide)); conv => whnf) | decide | assumption)
 all_goals try (exfalso; omega)
 obtain ⟨b3, rfl⟩ : ∃ b3 : Int, b3 = c := ⟨_, rfl⟩
 refine LoopX.rule hT (C := []) (ι := Int × List Plt × Nat) (fun (b, ps, i) => (b3 ≤ b ∧ b ≤ b3 + 6 * i ∧ (i : Int) ≤ m) ∧ allK pltK i ps)
  (fun (b, ps, i) => mkSt [(0, .ptr 1000000 0), (2, .ptr 2 0), (3, .ptr 3 0), (49, .d (.int .i64 m)), (50, .d (.int .i64 i))] [(1000000, strm n L b), (2, nlC), (3, rfC cs), (10, staB st), (20, vehB vs), (30, pltB ps)])
  (fun (_, _, i) => (m - i).toNat) (b3, [], 0) ⟨⟨by simp, by simp, by simpa using hm1⟩, ⟨by simp, by simp⟩⟩ ?_ ?_
 · refine Entails.trans (Entails.nilCell 3 30 126 3 3 (rowF pltF plt0 []) rfl rfl rfl (by decide) rfl) ?_
   exact (by (refine Entails.mk' [(1000000, 1000000), (2, 2), (3, 3), (10, 10), (20, 20), (30, 30)] rfl rfl ?_ ?_ <;> repeat' (first | exact True.intro | exact lr | exact rr | exact SV.le_int (by omega) | exact SV.le_any _ | refine And.intro ?_ ?_)); done)
 rintro ⟨b, ps, i⟩ ⟨⟨p1, p2, p3⟩, p4⟩
 have p1 : b3 ≤ b := p1
 have p2 : b ≤ b3 + 6 * i := p2
 have p3 : (i : Int) ≤ m := p3
 have p4 : allK pltK i ps := p4
 have hl2 : ps.length ≤ i := p4.1
 rcases Int.lt_or_le (i : Int) m with hi | hi
 · conv => whnf
   repeat' (first | (refine CallX.of (s33 n L hL _ ?_ ?_ [0, 0, 50, 100, 200, 1000] ?_ ?_) [(1000000, 1000000)] rfl ⟨lr, SV.le_lit rfl rfl, trivial⟩ ⟨rr, trivial⟩ rfl rfl ?_; rotate_right; rintro x rout ⟨⟨u1, hu1, rfl⟩, ⟨c, c1, c2, rfl⟩⟩; have hw1 := pkD hu1 (by decide); refine ⟨rfl, ?_⟩; conv => whnf) | (refine CallX.of (s86 n L hL _ ?_ ?_ _ ?_) [(1000000, 1000000)] rfl ⟨lr, lr, trivial⟩ ⟨rr, trivial⟩ rfl rfl ?_; rotate_right; rintro x rout ⟨⟨j, hj1, hj2, hj3, rfl⟩, ⟨c, c1, c2, rfl⟩⟩; refine ⟨rfl, ?_⟩; conv => whnf) | (refine CallX.of (s15 n L hL _ ?_ ?_ [[65, 66, 49], [65, 66, 50], [90, 90, 57]] (by simp) (by simp)) [(1000000, 1000000)] rfl ⟨lr, SV.le_lit rfl rfl, trivial⟩ ⟨rr, trivial⟩ rfl rfl ?_; rotate_right; rintro x rout ⟨⟨u3, hu3, rfl⟩, ⟨c, c1, c2, rfl⟩⟩; have hw3 := mem_len hu3 rfl; refine ⟨rfl, ?_⟩; conv => whnf) | (refine br_intro ?_ ?_ <;> intro hb <;> (try simp only [brs] at hb) <;> conv => whnf) | (refine RegX.rule (id := 8) hT rfl [] oTFlO57_8 (by decide +kernel) ?_; conv => whnf) | (refine RegX.rule (id := 13) hT rfl [] oTFlO57_13 (by decide +kernel) ?_; conv => whnf) | (refine RegX.rule (id := 14) hT rfl [] oTFlO57_14 (by decide +kernel) ?_; conv => whnf) | omega | (refine And.intro ?_ ?_; ((try dsimp only); first | omega | (refine szA rfl ?_; omega) | (refine szB rfl ?_; omega) | (unfold inI64; omega) | (simp only [lns] at *; omega) | decide | (unfold inI64; decide)); conv => whnf) | decide | assumption)
   · refine .ret _ ?_
     conv => whnf
     exact ⟨[(10, staB st), (20, vehB vs), (30, pltB ps), (1000000, strm n L b)], ⟨st, cs, vs, ps, b, ⟨hst, hc, p4v, allK_le p4 (by omega)⟩, ⟨by omega, by omega⟩, rfl, rfl⟩, rr, rr, rr, rr, trivial⟩
   have hpk : pltK ⟨u1, (vs.getD j.toNat veh0).key, u3⟩ := ⟨⟨by show (-2^40 : Int) ≤ u1; omega, by show u1 ≤ 2^40; omega⟩, (p4v.2 _ (getD_mem (by omega))).1, by show u3.length ≤ 16; omega⟩
   have hps := allK_snoc p4 (show i + 1 ≤ 12 by omega) hpk
   have hcS := sSortPl 139 rfCmp (ps ++ [⟨u1, (vs.getD j.toNat veh0).key, u3⟩]) hps.1 (fun p q hp hq => z139 p q (hps.2 _ hp) (hps.2 _ hq))
   obtain ⟨QS, hQS⟩ : ∃ QS, QS = isort rfCmp (ps ++ [⟨u1, (vs.getD j.toNat veh0).key, u3⟩]) := ⟨_, rfl⟩
   have hq := hps
   have hQ : allK pltK (i + 1) QS := by
    have hp := isort_perm rfCmp (ps ++ [⟨u1, (vs.getD j.toNat veh0).key, u3⟩])
    rw [← hQS] at hp
    exact ⟨by rw [hp.length_eq, List.length_append]; show ps.length + 1 ≤ i + 1; omega, fun x hx => hps.2 x (hp.mem_iff.1 hx)⟩
   have hok : fltOk ⟨st, cs, vs, QS⟩ := ⟨⟨Nat.le_trans hst.1 (by decide), fun s hs => Nat.le_trans (hst.2 s hs) (by decide)⟩, ⟨by show cs.length ≤ 2^20; omega, fun s hs => ⟨Nat.le_trans (hc.2 s hs).1 (by decide), Nat.le_trans (hc.2 s hs).2 (by decide)⟩⟩,
    ⟨by show vs.length ≤ 2^20; omega, fun s hs => ⟨Nat.le_trans (p4v.2 s hs).1 (by decide), Nat.le_trans (p4v.2 s hs).2 (by decide)⟩⟩, ⟨by show QS.length ≤ 2^20; have := hQ.1; omega, fun s hs => ⟨(hQ.2 s hs).1, Nat.le_trans (hQ.2 s hs).2.1 (by decide), Nat.le_trans (hQ.2 s hs).2.2 (by decide)⟩⟩⟩
   rw [← hQS] at hcS
   refine CallX.of (z137 ps (by omega)) [(1000001, 30), (7, 75)] rfl ⟨lr, trivial⟩ ⟨rr, trivial⟩ rfl rfl ?_
   rintro x rout (⟨rfl, hnil, rfl⟩ | ⟨rfl, rfl⟩)
   · have hnil2 := hnil
     rw [hnil] at hcS
     refine ⟨rfl, ?_⟩
     conv => whnf
     repeat' (first | (refine br_intro ?_ ?_ <;> intro hb <;> (try simp only [brs] at hb) <;> conv => whnf) | (refine RegX.rule (id := 8) hT rfl [] oTFlO57_8 (by decide +kernel) ?_; conv => whnf) | (refine RegX.rule (id := 13) hT rfl [] oTFlO57_13 (by decide +kernel) ?_; conv => whnf) | (refine RegX.rule (id := 14) hT rfl [] oTFlO57_14 (by decide +kernel) ?_; conv => whnf) | omega | (refine And.intro ?_ ?_; ((try dsimp only); first | omega | (refine szA rfl ?_; omega) | (refine szB rfl ?_; omega) | (unfold inI64; omega) | (simp only [lns] at *; omega) | decide | (unfold inI64; decide)); conv => whnf) | decide | assumption)
     refine CallX.of hcS [(1000001, 78)] rfl ⟨lr, lr, trivial⟩ ⟨Res.le_lit rfl rfl, trivial⟩ rfl rfl ?_
     rintro x rout ⟨rfl, rfl⟩
     refine ⟨rfl, ?_⟩
     conv => whnf
     repeat' (first | (refine br_intro ?_ ?_ <;> intro hb <;> (try simp only [brs] at hb) <;> conv => whnf) | (refine RegX.rule (id := 8) hT rfl [] oTFlO57_8 (by decide +kernel) ?_; conv => whnf) | (refine RegX.rule (id := 13) hT rfl [] oTFlO57_13 (by decide +kernel) ?_; conv => whnf) | (refine RegX.rule (id := 14) hT rfl [] oTFlO57_14 (by decide +kernel) ?_; conv => whnf) | omega | (refine And.intro ?_ ?_; ((try dsimp only); first | omega | (refine szA rfl ?_; omega) | (refine szB rfl ?_; omega) | (unfold inI64; omega) | (simp only [lns] at *; omega) | decide | (unfold inI64; decide)); conv => whnf) | decide | assumption)
     refine CallX.of (z21l ⟨st, cs, vs, QS⟩ hok) [(1, 10), (3, 20), (4, 78)] rfl ⟨lr, trivial⟩ ⟨rr, rr, rr, trivial⟩ rfl rfl ?_
     rintro x rout ⟨rfl, rfl⟩
     refine ⟨rfl, ?_⟩
     conv => whnf
     repeat' (first | (refine br_intro ?_ ?_ <;> intro hb <;> (try simp only [brs] at hb) <;> conv => whnf) | (refine RegX.rule (id := 8) hT rfl [] oTFlO57_8 (by decide +kernel) ?_; conv => whnf) | (refine RegX.rule (id := 13) hT rfl [] oTFlO57_13 (by decide +kernel) ?_; conv => whnf) | (refine RegX.rule (id := 14) hT rfl [] oTFlO57_14 (by decide +kernel) ?_; conv => whnf) | omega | (refine And.intro ?_ ?_; ((try dsimp only); first | omega | (refine szA rfl ?_; omega) | (refine szB rfl ?_; omega) | (unfold inI64; omega) | (simp only [lns] at *; omega) | decide | (unfold inI64; decide)); conv => whnf) | decide | assumption)
     · exact ⟨(c, QS, i + 1), ⟨⟨by omega, by show _ ≤ b3 + 6 * ((i + 1 : Nat) : Int); omega, by show ((i + 1 : Nat) : Int) ≤ m; omega⟩, hQ⟩, by show (m - ((i + 1 : Nat) : Int)).toNat < (m - (i : Int)).toNat; omega, (by (refine Entails.mk' [(1000000, 1000000), (2, 2), (3, 3), (10, 10), (20, 20), (30, 78)] rfl rfl ?_ ?_ <;> repeat' (first | exact True.intro | exact lr | exact rr | exact SV.le_int (by omega) | exact SV.le_any _ | refine And.intro ?_ ?_)); done)⟩
     · exact ⟨(c, ps, i + 1), ⟨⟨by omega, by show _ ≤ b3 + 6 * ((i + 1 : Nat) : Int); omega, by show ((i + 1 : Nat) : Int) ≤ m; omega⟩, allK_le p4 (by omega)⟩, by show (m - ((i + 1 : Nat) : Int)).toNat < (m - (i : Int)).toNat; omega, (by (refine Entails.mk' [(1000000, 1000000), (2, 2), (3, 3), (10, 10), (20, 20), (30, 30)] rfl rfl ?_ ?_ <;> repeat' (first | exact True.intro | exact lr | exact rr | exact SV.le_int (by omega) | exact SV.le_any _ | refine And.intro ?_ ?_)); done)⟩
   · refine ⟨rfl, ?_⟩
     conv => whnf
     repeat' (first | (refine br_intro ?_ ?_ <;> intro hb <;> (try simp only [brs] at hb) <;> conv => whnf) | (refine RegX.rule (id := 8) hT rfl [] oTFlO57_8 (by decide +kernel) ?_; conv => whnf) | (refine RegX.rule (id := 13) hT rfl [] oTFlO57_13 (by decide +kernel) ?_; conv => whnf) | (refine RegX.rule (id := 14) hT rfl [] oTFlO57_14 (by decide +kernel) ?_; conv => whnf) | omega | (refine And.intro ?_ ?_; ((try dsimp only); first | omega | (refine szA rfl ?_; omega) | (refine szB rfl ?_; omega) | (unfold inI64; omega) | (simp only [lns] at *; omega) | decide | (unfold inI64; decide)); conv => whnf) | decide | assumption)
     refine CallX.of hcS [(1000001, 78)] rfl ⟨lr, lr, trivial⟩ ⟨Res.le_snocF rfl, trivial⟩ rfl rfl ?_
     rintro x rout ⟨rfl, rfl⟩
     refine ⟨rfl, ?_⟩
     conv => whnf
     repeat' (first | (refine br_intro ?_ ?_ <;> intro hb <;> (try simp only [brs] at hb) <;> conv => whnf) | (refine RegX.rule (id := 8) hT rfl [] oTFlO57_8 (by decide +kernel) ?_; conv => whnf) | (refine RegX.rule (id := 13) hT rfl [] oTFlO57_13 (by decide +kernel) ?_; conv => whnf) | (refine RegX.rule (id := 14) hT rfl [] oTFlO57_14 (by decide +kernel) ?_; conv => whnf) | omega | (refine And.intro ?_ ?_; ((try dsimp only); first | omega | (refine szA rfl ?_; omega) | (refine szB rfl ?_; omega) | (unfold inI64; omega) | (simp only [lns] at *; omega) | decide | (unfold inI64; decide)); conv => whnf) | decide | assumption)
     refine CallX.of (z21l ⟨st, cs, vs, QS⟩ hok) [(1, 10), (3, 20), (4, 78)] rfl ⟨lr, trivial⟩ ⟨rr, rr, rr, trivial⟩ rfl rfl ?_
     rintro x rout ⟨rfl, rfl⟩
     refine ⟨rfl, ?_⟩
     conv => whnf
     repeat' (first | (refine br_intro ?_ ?_ <;> intro hb <;> (try simp only [brs] at hb) <;> conv => whnf) | (refine RegX.rule (id := 8) hT rfl [] oTFlO57_8 (by decide +kernel) ?_; conv => whnf) | (refine RegX.rule (id := 13) hT rfl [] oTFlO57_13 (by decide +kernel) ?_; conv => whnf) | (refine RegX.rule (id := 14) hT rfl [] oTFlO57_14 (by decide +kernel) ?_; conv => whnf) | omega | (refine And.intro ?_ ?_; ((try dsimp only); first | omega | (refine szA rfl ?_; omega) | (refine szB rfl ?_; omega) | (unfold inI64; omega) | (simp only [lns] at *; omega) | decide | (unfold inI64; decide)); conv => whnf) | decide | assumption)
     · exact ⟨(c, QS, i + 1), ⟨⟨by omega, by show _ ≤ b3 + 6 * ((i + 1 : Nat) : Int); omega, by show ((i + 1 : Nat) : Int) ≤ m; omega⟩, hQ⟩, by show (m - ((i + 1 : Nat) : Int)).toNat < (m - (i : Int)).toNat; omega, (by (refine Entails.mk' [(1000000, 1000000), (2, 2), (3, 3), (10, 10), (20, 20), (30, 78)] rfl rfl ?_ ?_ <;> repeat' (first | exact True.intro | exact lr | exact rr | exact SV.le_int (by omega) | exact SV.le_any _ | refine And.intro ?_ ?_)); done)⟩
     · exact ⟨(c, ps, i + 1), ⟨⟨by omega, by show _ ≤ b3 + 6 * ((i + 1 : Nat) : Int); omega, by show ((i + 1 : Nat) : Int) ≤ m; omega⟩, allK_le p4 (by omega)⟩, by show (m - ((i + 1 : Nat) : Int)).toNat < (m - (i : Int)).toNat; omega, (by (refine Entails.mk' [(1000000, 1000000), (2, 2), (3, 3), (10, 10), (20, 20), (30, 30)] rfl rfl ?_ ?_ <;> repeat' (first | exact True.intro | exact lr | exact rr | exact SV.le_int (by omega) | exact SV.le_any _ | refine And.intro ?_ ?_)); done)⟩
 have him : (i : Int) = m := by omega
 conv => whnf
 repeat' (first | (refine br_intro ?_ ?_ <;> intro hb <;> (try simp only [brs] at hb) <;> conv => whnf) | (refine RegX.rule (id := 8) hT rfl [] oTFlO57_8 (by decide +kernel) ?_; conv => whnf) | (refine RegX.rule (id := 13) hT rfl [] oTFlO57_13 (by decide +kernel) ?_; conv => whnf) | (refine RegX.rule (id := 14) hT rfl [] oTFlO57_14 (by decide +kernel) ?_; conv => whnf) | omega | (refine And.intro ?_ ?_; ((try dsimp only); first | omega | (refine szA rfl ?_; omega) | (refine szB rfl ?_; omega) | (unfold inI64; omega) | (simp only [lns] at *; omega) | decide | (unfold inI64; decide)); conv => whnf) | decide | assumption)
 all_goals try (exfalso; omega)
 refine .ret _ ?_
 conv => whnf
 exact ⟨[(10, staB st), (20, vehB vs), (30, pltB ps), (1000000, strm n L b)], ⟨st, cs, vs, ps, b, ⟨hst, hc, p4v, allK_le p4 (by omega)⟩, ⟨by omega, by omega⟩, rfl, rfl⟩, rr, rr, rr, rr, trivial⟩
def oTFlP10_7 : List (Nat × List Nat) := [(0, []), (1, []), (2, [0, 1]), (3, [0, 1, 2]), (4, [0, 1]), (5, [0, 1]), (6, [0, 1]), (7, []), (8, []), (9, [])]
def oTFlP10_11 : List (Nat × List Nat) := [(0, []), (1, []), (2, [0, 1]), (3, [0, 1, 2]), (5, [0, 1, 2, 3]), (4, [0, 1, 5]), (6, [0, 1]), (7, [0, 1]), (8, [0, 1]), (9, []), (10, []), (11, [])]
def oTFlP10_5 : List (Nat × List Nat) := [(0, []), (1, []), (2, [0, 1]), (4, [0, 1, 2]), (5, [0, 1, 2, 4]), (7, [0, 1, 2, 4, 5]), (8, [0, 1, 2, 4, 5, 7]), (3, [0, 1, 4, 5, 7, 8]), (6, [0, 1, 7, 8]), (9, [0, 1]), (10, [0, 1]), (11, [0, 1]), (12, []), (13, []), (14, [])]
structure fltK (f : Flt) : Prop where
 sta : allK staK 4 f.sta
 cls : clsB f.cls
 veh : allK vehK 5 f.veh
 plt : allK pltK 6 f.plt
theorem fltK.ok {f : Flt} (h : fltK f) : fltOk f :=
 ⟨⟨Nat.le_trans h.sta.1 (by decide), fun s hs => Nat.le_trans (h.sta.2 s hs) (by decide)⟩, ⟨Nat.le_trans h.cls.1 (by decide), fun s hs => ⟨Nat.le_trans (h.cls.2 s hs).1 (by decide), Nat.le_trans (h.cls.2 s hs).2 (by decide)⟩⟩,
   ⟨Nat.le_trans h.veh.1 (by decide), fun s hs => ⟨Nat.le_trans (h.veh.2 s hs).1 (by decide), Nat.le_trans (h.veh.2 s hs).2 (by decide)⟩⟩, ⟨Nat.le_trans h.plt.1 (by decide), fun s hs => ⟨(h.plt.2 s hs).1, Nat.le_trans (h.plt.2 s hs).2.1 (by decide), Nat.le_trans (h.plt.2 s hs).2.2 (by decide)⟩⟩⟩
set_option maxHeartbeats 4000000 in
theorem sFlt (n : Nat) (L : Nat → Int) (hL : Rok n L) (a : Int) (h0 : 0 ≤ a) (ha : a ≤ 2^34) :
 FSpec Tryz.prog 10 [.ptr 1000000 0] [(1000000, strm n L a)] (fun y r => (∃ f : Flt, fltK f ∧ y = flt f) ∧ Moved n L a 600 r) := by
 refine spec_of hT (C := []) Tryz.func10 rfl Tryz.call10 rfl rfl rfl ?_
 conv => whnf
 refine CallX.of (sRFlt n L hL a h0 (by omega)) [(1000000, 1000000), (10, 10), (20, 20), (30, 30)] rfl ⟨lr, trivial⟩ ⟨rr, trivial⟩ rfl rfl ?_
 rintro x rout ⟨st, cs, vs, ps, b, ⟨k1, k2, k3, k4⟩, ⟨b1, b2⟩, rfl, rfl⟩
 have k1l := k1.1
 have k3l := k3.1
 have k4l := k4.1
 have k2c : clsB cs := ⟨by have := k2.1; omega, k2.2⟩
 refine ⟨rfl, ?_⟩
 conv => whnf
 repeat' (first | (refine CallX.of (s84 n L hL _ ?_ ?_ 12 ?_) [(1000000, 1000000)] rfl ⟨lr, lr, trivial⟩ ⟨rr, trivial⟩ rfl rfl ?_; rotate_right; rintro x rout ⟨⟨w, rfl⟩, ⟨c, c1, c2, rfl⟩⟩; refine ⟨rfl, ?_⟩; conv => whnf) | (refine CallX.of (s86 n L hL _ ?_ ?_ 4 ?_) [(1000000, 1000000)] rfl ⟨lr, lr, trivial⟩ ⟨rr, trivial⟩ rfl rfl ?_; rotate_right; rintro x rout ⟨⟨j, hj1, hj2, hj3, rfl⟩, ⟨c, c1, c2, rfl⟩⟩; refine ⟨rfl, ?_⟩; conv => whnf) | (refine CallX.of (s15 n L hL _ ?_ ?_ [[], [65], [115, 49], [115, 57]] (by simp) (by simp)) [(1000000, 1000000)] rfl ⟨lr, SV.le_lit rfl rfl, trivial⟩ ⟨rr, trivial⟩ rfl rfl ?_; rotate_right; rintro x rout ⟨⟨u1, hu1, rfl⟩, ⟨c, c1, c2, rfl⟩⟩; have hw1 := mem_len16 hu1 rfl; refine ⟨rfl, ?_⟩; conv => whnf) | (refine CallX.of (s15 n L hL _ ?_ ?_ [[], [118, 49], [118, 57]] (by simp) (by simp)) [(1000000, 1000000)] rfl ⟨lr, SV.le_lit rfl rfl, trivial⟩ ⟨rr, trivial⟩ rfl rfl ?_; rotate_right; rintro x rout ⟨⟨u2, hu2, rfl⟩, ⟨c, c1, c2, rfl⟩⟩; have hw2 := mem_len hu2 rfl; refine ⟨rfl, ?_⟩; conv => whnf) | (refine CallX.of (s15 n L hL _ ?_ ?_ [[118, 49], [110, 111, 110, 101]] (by simp) (by simp)) [(1000000, 1000000)] rfl ⟨lr, SV.le_lit rfl rfl, trivial⟩ ⟨rr, trivial⟩ rfl rfl ?_; rotate_right; rintro x rout ⟨⟨u3, hu3, rfl⟩, ⟨c, c1, c2, rfl⟩⟩; have hw3 := mem_len hu3 rfl; refine ⟨rfl, ?_⟩; conv => whnf) | (refine CallX.of (s15 n L hL _ ?_ ?_ [[65, 66, 49], [97, 49], [65], [65, 66, 67, 68, 69, 70, 71, 72, 73, 74, 49], [65, 66, 49]] (by simp) (by simp)) [(1000000, 1000000)] rfl ⟨lr, SV.le_lit rfl rfl, trivial⟩ ⟨rr, trivial⟩ rfl rfl ?_; rotate_right; rintro x rout ⟨⟨u4, hu4, rfl⟩, ⟨c, c1, c2, rfl⟩⟩; have hw4 := mem_len16 hu4 rfl; refine ⟨rfl, ?_⟩; conv => whnf) | (refine CallX.of (s104 n L hL _ ?_ ?_ 0 2000 ?_ ?_ ?_) [(1000000, 1000000)] rfl ⟨lr, lr, lr, trivial⟩ ⟨rr, trivial⟩ rfl rfl ?_; rotate_right; rintro x rout ⟨⟨o, ho1, ho2, rfl⟩, ⟨c, c1, c2, rfl⟩⟩; refine ⟨rfl, ?_⟩; conv => whnf) | (refine CallX.of (sClsKey n L hL _ ?_ ?_) [(1000000, 1000000)] rfl ⟨lr, trivial⟩ ⟨rr, trivial⟩ rfl rfl ?_; rotate_right; rintro x rout ⟨⟨u5, hu5, rfl⟩, ⟨c, c1, c2, rfl⟩⟩; refine ⟨rfl, ?_⟩; conv => whnf) | (refine CallX.of (sAnyCls n L hL _ ?_ ?_) [(1000000, 1000000)] rfl ⟨lr, trivial⟩ ⟨rr, trivial⟩ rfl rfl ?_; rotate_right; rintro x rout ⟨⟨cn, hcn, rfl⟩, ⟨c, c1, c2, rfl⟩⟩; refine ⟨rfl, ?_⟩; conv => whnf) | (refine br_intro ?_ ?_ <;> intro hb <;> (try simp only [brs] at hb) <;> conv => whnf) | (refine RegX.rule (id := 7) hT rfl [] oTFlP10_7 (by decide +kernel) ?_; conv => whnf) | (refine RegX.rule (id := 11) hT rfl [] oTFlP10_11 (by decide +kernel) ?_; conv => whnf) | (refine RegX.rule (id := 5) hT rfl [] oTFlP10_5 (by decide +kernel) ?_; conv => whnf) | omega | (refine And.intro ?_ ?_; ((try dsimp only); first | omega | (refine szA rfl ?_; omega) | (refine szB rfl ?_; omega) | (unfold inI64; omega) | (simp only [lns] at *; omega) | decide | (unfold inI64; decide)); conv => whnf) | decide | assumption)
 · refine .freeze _ 10 121 15 _ _ rfl (.freeze _ 20 124 2 _ _ rfl (.freeze _ 30 126 3 _ _ rfl ?_))
   refine .ent _ _ (Entails.froCell 2 10 15 _ 0 _ rfl rfl rfl) ?_
   refine .ent _ _ (Entails.froCell 2 20 2 _ 2 _ rfl rfl rfl) ?_
   refine .ent _ _ (Entails.froCell 2 30 3 _ 3 _ rfl rfl rfl) ?_
   refine .weak _ ?_
   conv => whnf
   exact ⟨flt ⟨st, cs, vs, ps⟩, [(1000000, strm n L _)], SV.le_agg ⟨lr, lr, lr, lr, trivial⟩, ⟨⟨⟨st, cs, vs, ps⟩, ⟨allK_le k1 (by omega), k2c, allK_le k3 (by omega), allK_le k4 (by omega)⟩, rfl⟩, _, by omega, by omega, rfl⟩, rr, trivial⟩
 · refine .freeze _ 35 121 15 _ _ rfl (.freeze _ 20 124 2 _ _ rfl (.freeze _ 30 126 3 _ _ rfl ?_))
   refine .ent _ _ (Entails.froCell 2 35 15 _ 0 _ rfl rfl rfl) ?_
   refine .ent _ _ (Entails.froCell 2 20 2 _ 2 _ rfl rfl rfl) ?_
   refine .ent _ _ (Entails.froCell 2 30 3 _ 3 _ rfl rfl rfl) ?_
   refine .weak _ ?_
   conv => whnf
   exact ⟨flt ⟨st ++ [⟨u1, fun _ => 0⟩], cs, vs, ps⟩, [(1000000, strm n L _)], SV.le_agg ⟨SV.le_snocF rfl, lr, lr, lr, trivial⟩, ⟨⟨⟨st ++ [⟨u1, fun _ => 0⟩], cs, vs, ps⟩, ⟨allK_snoc k1 (by omega) (by show u1.length ≤ 8; exact mem_len hu1 rfl), k2c, allK_le k3 (by omega), allK_le k4 (by omega)⟩, rfl⟩, _, by omega, by omega, rfl⟩, rr, trivial⟩
 · refine .freeze _ 10 121 15 _ _ rfl (.freeze _ 20 124 2 _ _ rfl (.freeze _ 30 126 3 _ _ rfl ?_))
   refine .ent _ _ (Entails.froCell 2 10 15 _ 0 _ rfl rfl rfl) ?_
   refine .ent _ _ (Entails.froCell 2 20 2 _ 2 _ rfl rfl rfl) ?_
   refine .ent _ _ (Entails.froCell 2 30 3 _ 3 _ rfl rfl rfl) ?_
   refine .weak _ ?_
   conv => whnf
   exact ⟨flt ⟨st, cn, vs, ps⟩, [(1000000, strm n L _)], SV.le_agg ⟨lr, lr, lr, lr, trivial⟩, ⟨⟨⟨st, cn, vs, ps⟩, ⟨allK_le k1 (by omega), hcn, allK_le k3 (by omega), allK_le k4 (by omega)⟩, rfl⟩, _, by omega, by omega, rfl⟩, rr, trivial⟩
 · refine .freeze _ 10 121 15 _ _ rfl (.freeze _ 53 124 2 _ _ rfl (.freeze _ 30 126 3 _ _ rfl ?_))
   refine .ent _ _ (Entails.froCell 2 10 15 _ 0 _ rfl rfl rfl) ?_
   refine .ent _ _ (Entails.froCell 2 53 2 _ 2 _ rfl rfl rfl) ?_
   refine .ent _ _ (Entails.froCell 2 30 3 _ 3 _ rfl rfl rfl) ?_
   refine .weak _ ?_
   conv => whnf
   exact ⟨flt ⟨st, cs, vs ++ [⟨u2, u5⟩], ps⟩, [(1000000, strm n L _)], SV.le_agg ⟨lr, lr, SV.le_snocF rfl, lr, trivial⟩, ⟨⟨⟨st, cs, vs ++ [⟨u2, u5⟩], ps⟩, ⟨allK_le k1 (by omega), k2c, allK_snoc k3 (by omega) ⟨hw2, hu5⟩, allK_le k4 (by omega)⟩, rfl⟩, _, by omega, by omega, rfl⟩, rr, trivial⟩
 · refine .freeze _ 10 121 15 _ _ rfl (.freeze _ 20 124 2 _ _ rfl (.freeze _ 24 126 3 _ _ rfl ?_))
   refine .ent _ _ (Entails.froCell 2 10 15 _ 0 _ rfl rfl rfl) ?_
   refine .ent _ _ (Entails.froCell 2 20 2 _ 2 _ rfl rfl rfl) ?_
   refine .ent _ _ (Entails.froCell 2 24 3 _ 3 _ rfl rfl rfl) ?_
   refine .weak _ ?_
   conv => whnf
   exact ⟨flt ⟨st, cs, vs, ps ++ [⟨o, u3, u4⟩]⟩, [(1000000, strm n L _)], SV.le_agg ⟨lr, lr, lr, SV.le_snocF rfl, trivial⟩, ⟨⟨⟨st, cs, vs, ps ++ [⟨o, u3, u4⟩]⟩, ⟨allK_le k1 (by omega), k2c, allK_le k3 (by omega), allK_snoc k4 (by omega) ⟨⟨ho1, ho2⟩, hw3, hw4⟩⟩, rfl⟩, _, by omega, by omega, rfl⟩, rr, trivial⟩
def oTNtD15_1 : List (Nat × List Nat) := [(0, []), (1, [0]), (3, [0, 1]), (5, [0, 1, 3]), (2, [3, 5]), (4, [5]), (6, []), (7, []), (8, []), (9, [])]
def oTNtD15_12 : List (Nat × List Nat) := [(0, []), (1, [0]), (2, [0]), (3, [0, 1, 2]), (4, [0, 1, 2, 3]), (5, [0, 1, 2]), (6, [0, 1, 2]), (7, [0, 1, 2]), (8, [0, 1, 2, 3, 4, 5, 6, 7]), (9, [0, 1, 2, 3, 4, 5, 6, 7, 8]), (10, [0, 1, 2, 3, 4, 5, 6, 7]), (11, [0, 1, 2, 3, 4, 5, 6, 7]), (12, [0, 1, 2, 3, 4, 5, 6, 7]), (13, [0, 1, 2, 3, 4, 5, 6, 7, 8, 9, 10, 11, 12]), (14, [0, 1, 2, 3, 4, 5, 6, 7, 8, 9, 10, 11, 12]), (15, [0]), (16, [0]), (17, []), (18, [])]
structure Nmd where
 ntc : List UInt8
 hire : List UInt8
 drv : List UInt8
 bby : Int
def nmF : Nmd → List DV := fun x => [.str x.ntc, .str x.hire, .str x.drv, .int .i64 x.bby]
def nm0 : Nmd := ⟨[], [], [], 0⟩
abbrev nmds (l : List Nmd) : DV := seqD 4 nmF nm0 l
def namOf (O : List UInt8 → List Hld) (h : List Hir) (r : Ntr) (n : Ntc) : Option Nmd :=
 if ownK (O n.plate) h n.tm < 0 then none else some ⟨n.key, (h.getD (ownK (O n.plate) h n.tm).toNat hi0).key, (h.getD (ownK (O n.plate) h n.tm).toNat hi0).drv, min ((n.came.tdiv 1440 + r.name + 1) * 1440 - 1) 5761439⟩
def namL (O : List UInt8 → List Hld) (h : List Hir) (r : Ntr) (l : List Ntc) : List Nmd := l.filterMap (namOf O h r)
theorem hend_len (l : List Plt) (q : List UInt8) : ((hend l).out q).length ≤ l.length := by
 have key : ∀ (m : List Plt) (s : HS), ((m.foldl (fun s x => hdrop s x.plt 5761440) s).out q).length + (m.foldl (fun s x => hdrop s x.plt 5761440) s).live.length ≤ (s.out q).length + s.live.length := by
  intro m
  induction m with
  | nil => intro s; exact Nat.le_refl _
  | cons x m ih => intro s; exact Nat.le_trans (ih _) (hdrop_len s x.plt 5761440 q)
 have h1 := key l (hall l)
 have h2 := hall_len l q
 show (((l.foldl (fun s x => hdrop s x.plt 5761440) (hall l))).out q).length ≤ _
 omega
theorem hirIx_bd (l : List Hir) (v : List UInt8) (t : Int) : -1 ≤ hirIx l v t ∧ hirIx l v t < l.length := ⟨ixF_bd.1, ixF_bd.2.1⟩
theorem ownK_bd (o : List Hld) (l : List Hir) (t : Int) : -1 ≤ ownK o l t ∧ ownK o l t < l.length := by
 unfold ownK
 split
 · constructor <;> omega
 · exact hirIx_bd _ _ _
theorem namL_snoc {O : List UInt8 → List Hld} {h : List Hir} {r : Ntr} {l : List Ntc} {i : Nat} (hi : i < l.length) : namL O h r (l.take (i + 1)) = namL O h r (l.take i) ++ (namOf O h r (l.getD i ntc0)).toList := by
 unfold namL
 rw [take_snocD (d := ntc0) hi, List.filterMap_append]
 rw [List.filterMap_cons]
 cases namOf O h r (l.getD i ntc0) <;> rfl
def nameE0 (f : Flt) (h : List Hir) (r : Ntr) (l : List Ntc) : Int := firstE [offE f h, ntrE r, ntcsE l]
theorem fltE_srt {f : Flt} (h : fltE f = 0) : srtP f.plt ∧ f.plt.length ≤ 1000 := by
 unfold fltE at h
 have h0 : firstAt (pltE1 f) f.plt.length = 0 ∧ f.plt.length ≤ 1000 := by
  split at h
  · exact absurd h (by assumption)
  · split at h
    · exact absurd h (by assumption)
    · split at h
      · cases h
      · exact ⟨h, by omega⟩
 have h1 := firstAt_all h0.1
 refine ⟨?_, h0.2⟩
 unfold srtP
 rw [List.pairwise_iff_getElem]
 intro i j hi hj hij
 have := frm_mono (f := f) (i := j) (fun k hk hk0 => pltE1_cmp (h1 k (by omega)) hk0) j i (by omega) (by omega)
 rw [List.getD_eq_getElem?_getD, List.getD_eq_getElem?_getD, List.getElem?_eq_getElem hi, List.getElem?_eq_getElem hj] at this
 exact this
set_option maxHeartbeats 4000000 in
theorem z15n (f : Flt) (hk : fltOk f) (h : List Hir) (hh : hiOk h) (hg : ∀ x ∈ h, x.legs.length ≤ 2^40) (r : Ntr) (l : List Ntc) (hl : ntOk l) :
 FSpec Tryz.prog 15 [flt f, .d (hirs h), .agg ((ntrF r).map .d), .d (ntcs l)] [] (fun y ro => y = (if nameE0 f h r l ≠ 0 then .tup [.d .nilsl, .d (.int .i64 (nameE0 f h r l))] else if 50 < (namL (hend f.plt).out h r l).length then .tup [.d .nilsl, .d (.int .i64 2)] else .tup [.d (nmds (namL (hend f.plt).out h r l)), .d (.int .i64 0)]) ∧ ro = []) := by
 have h3 := s105 [offE f h, ntrE r, ntcsE l] (by simp)
 rw [show firstE [offE f h, ntrE r, ntcsE l] = nameE0 f h r l from rfl] at h3
 have hhl : h.length ≤ 2^40 := hh.1
 refine spec_of hT (C := []) Tryz.func15 rfl Tryz.call15 rfl rfl rfl ?_
 conv => whnf
 repeat' (first | (refine CallX.exact (z72 f hk h hh) rfl rfl ?_; rotate_right; conv => whnf) | (refine CallX.exact (sNtRules r) rfl rfl ?_; rotate_right; conv => whnf) | (refine CallX.pure (sNotices l hl) ⟨SV.le_lit (by rfl) (by rfl), trivial⟩ rfl ?_; conv => whnf) | (refine CallX.pure h3 ⟨SV.le_lit (by rfl) (by rfl), trivial⟩ rfl ?_; conv => whnf) | (refine CallX.exact (sNotices l hl) rfl rfl ?_; rotate_right; conv => whnf) | (refine br_intro ?_ ?_ <;> intro hb <;> (try simp only [brs] at hb) <;> conv => whnf) | (refine RegX.rule (id := 1) hT rfl [] oTNtD15_1 (by decide +kernel) ?_; conv => whnf) | (refine RegX.rule (id := 12) hT rfl [] oTNtD15_12 (by decide +kernel) ?_; conv => whnf) | omega | (refine And.intro ?_ ?_; ((try dsimp only); first | omega | (refine szA rfl ?_; omega) | (refine szB rfl ?_; omega) | (unfold inI64; omega) | exact rfl | (simp only [lns] at *; omega) | decide | (unfold inI64; decide)); conv => whnf) | decide | assumption)
 · refine .ret _ ?_
   conv => whnf
   refine ⟨[], ⟨?_, rfl⟩, trivial⟩
   rw [if_pos hb]
   rfl
 have E0 : nameE0 f h r l = 0 := hb
 have E1 : offE f h = 0 := by
  rcases Classical.em (offE f h = 0) with q | q
  · exact q
  · unfold nameE0 at E0; rw [firstE, if_neg q] at E0; exact absurd E0 q
 have E2 : ntrE r = 0 := by
  rcases Classical.em (ntrE r = 0) with q | q
  · exact q
  · unfold nameE0 at E0; rw [firstE, if_pos E1, firstE, if_neg q] at E0; exact absurd E0 q
 have E3 : ntcsE l = 0 := by
  rcases Classical.em (ntcsE l = 0) with q | q
  · exact q
  · unfold nameE0 at E0; rw [firstE, if_pos E1, firstE, if_pos E2, firstE, if_neg q] at E0; exact absurd E0 q
 have E4 : fltE f = 0 := by
  rcases Classical.em (fltE f = 0) with q | q
  · exact q
  · unfold offE at E1; rw [firstE, if_neg q] at E1; exact absurd E1 q
 obtain ⟨hs, hpl⟩ := fltE_srt E4
 obtain ⟨r1, _, _, _⟩ := ntr_zero E2
 obtain ⟨O, hO⟩ : ∃ O, O = (hend f.plt).out := ⟨_, rfl⟩
 have hOl : ∀ q, (O q).length ≤ 1000 := fun q => by rw [hO]; exact Nat.le_trans (hend_len _ _) hpl
 have hcm : ∀ x ∈ l, 0 ≤ x.came ∧ x.came ≤ 5761439 := fun x hx => by
  obtain ⟨j, hj, rfl⟩ := mem_getD (d := ntc0) hx
  unfold ntcsE at E3
  split at E3
  · cases E3
  · have := firstAt_all E3 j hj
    unfold ntcE at this
    grind
 have hl200 : l.length ≤ 200 := by
  unfold ntcsE at E3
  split at E3
  · cases E3
  · omega
 rw [← hO]
 refine CallX.of (z73 f hpl hs h) [(6, 32)] rfl ⟨lr, lr, trivial⟩ trivial rfl rfl ?_
 rintro x rout ⟨rfl, rfl⟩
 refine ⟨rfl, ?_⟩
 conv => whnf
 repeat' (first | (refine br_intro ?_ ?_ <;> intro hb <;> (try simp only [brs] at hb) <;> conv => whnf) | (refine RegX.rule (id := 1) hT rfl [] oTNtD15_1 (by decide +kernel) ?_; conv => whnf) | (refine RegX.rule (id := 12) hT rfl [] oTNtD15_12 (by decide +kernel) ?_; conv => whnf) | omega | (refine And.intro ?_ ?_; ((try dsimp only); first | omega | (refine szA rfl ?_; omega) | (refine szB rfl ?_; omega) | (unfold inI64; omega) | exact rfl | (simp only [lns] at *; omega) | decide | (unfold inI64; decide)); conv => whnf) | decide | assumption)
 rw [if_neg (by omega)]
 refine LoopX.rule hT (C := []) (ι := Nat) (fun i => i ≤ l.length) (fun i => mkSt [(1, .d (hirs h)), (6, .ptr 6 0), (11, .ptr 11 0), (12, .buf 12), (33, .d (ntcs l)), (34, .d (.int .i64 l.length)), (35, .d (.int .i64 i))] [(6, .cells 37 ((ntrF r).map .d)), (11, .cells 137 [.mp 32, .d (hirs h)]), (32, mF O), (12, seqB 52 4 nmF nm0 (namL O h r (l.take i)))]) (fun i => l.length - i) 0 (by omega) ?_ ?_
 · refine (Entails.nil 12 12 52 4 (rowF nmF nm0 []) rfl rfl (by decide)).trans (Entails.mk' [(6, 6), (11, 11), (32, 32), (12, 12)] rfl rfl ⟨lr, lr, lr, lr, lr, lr, lr, trivial⟩ ⟨rr, rr, by rw [hO]; exact rr, rr, trivial⟩)
 intro i p1
 have e1 : (i : Int).toNat = i := Int.toNat_natCast i
 have hnl : ∀ i, (namL O h r (l.take i)).length ≤ 200 := fun i => Nat.le_trans (List.length_filterMap_le _ _) (by rw [List.length_take]; omega)
 have hnl1 := hnl i
 rcases Nat.lt_or_ge i l.length with hi | hi
 · have hbd := ownK_bd (O (l.getD (i : Int).toNat ntc0).plate) h (l.getD (i : Int).toNat ntc0).tm
   have hKe : ownK (O (l.getD (i : Int).toNat ntc0).plate) h (l.getD (i : Int).toNat ntc0).tm = ownK (O (l.getD i ntc0).plate) h (l.getD i ntc0).tm := by rw [e1]
   have hc2 := hcm (l.getD (i : Int).toNat ntc0) (getD_mem (by omega))
   have hsn := namL_snoc (O := O) (h := h) (r := r) hi
   have hq : (l.getD (i : Int).toNat ntc0).came.tdiv 1440 = (l.getD (i : Int).toNat ntc0).came / 1440 := Int.tdiv_eq_ediv_of_nonneg hc2.1
   conv => whnf
   repeat' (first | (refine CallX.of (z74 (fun p => !(O p).isEmpty) (fun p => vF (O p)) (O (l.getD (i : Int).toNat ntc0).plate) h hhl hg (l.getD (i : Int).toNat ntc0).plate (l.getD (i : Int).toNat ntc0).tm (Nat.le_trans (hOl _) (by decide)) (vF_or _)) [(1000001, 32)] rfl ⟨lr, lr, lr, trivial⟩ ⟨rr, trivial⟩ rfl rfl ?_; rintro x rout ⟨rfl, rfl⟩; refine ⟨rfl, ?_⟩; conv => whnf) | (refine br_intro ?_ ?_ <;> intro hb <;> (try simp only [brs] at hb) <;> conv => whnf) | (refine RegX.rule (id := 1) hT rfl [] oTNtD15_1 (by decide +kernel) ?_; conv => whnf) | (refine RegX.rule (id := 12) hT rfl [] oTNtD15_12 (by decide +kernel) ?_; conv => whnf) | omega | (refine And.intro ?_ ?_; ((try dsimp only); first | omega | (refine szA rfl ?_; omega) | (refine szB rfl ?_; omega) | (unfold inI64; omega) | exact rfl | (simp only [lns] at *; omega) | decide | (unfold inI64; decide)); conv => whnf) | decide | assumption)
   all_goals try (exfalso; omega)
   · have hN : namL O h r (l.take (i + 1)) = namL O h r (l.take i) := by
      rw [hsn]; unfold namOf; rw [if_pos (by omega)]; simp
     exact ⟨i + 1, by omega, by omega, Entails.mk' [(6, 6), (11, 11), (32, 32), (12, 12)] rfl rfl ⟨lr, lr, lr, lr, lr, lr, lr, trivial⟩ ⟨rr, rr, rr, by rw [hN]; exact rr, trivial⟩⟩
   · have hN : namL O h r (l.take (i + 1)) = namL O h r (l.take i) ++ [⟨(l.getD i ntc0).key, (h.getD (ownK (O (l.getD i ntc0).plate) h (l.getD i ntc0).tm).toNat hi0).key, (h.getD (ownK (O (l.getD i ntc0).plate) h (l.getD i ntc0).tm).toNat hi0).drv, min (((l.getD i ntc0).came.tdiv 1440 + r.name + 1) * 1440 - 1) 5761439⟩] := by
      rw [hsn]; unfold namOf; rw [if_neg (by omega)]; rfl
     refine ⟨i + 1, by omega, by omega, Entails.mk' [(6, 6), (11, 11), (32, 32), (12, 76)] rfl rfl ⟨lr, lr, lr, lr, lr, lr, lr, trivial⟩ ⟨rr, rr, rr, ?_, trivial⟩⟩
     rw [hN]
     refine Res.le_snocF ?_
     simp only [e1, nmF]
     conv => lhs; whnf
     rfl
 have hil : i = l.length := by omega
 subst hil
 rw [List.take_length] at hnl1
 conv => whnf
 repeat' (first | (refine br_intro ?_ ?_ <;> intro hb <;> (try simp only [brs] at hb) <;> conv => whnf) | (refine RegX.rule (id := 1) hT rfl [] oTNtD15_1 (by decide +kernel) ?_; conv => whnf) | (refine RegX.rule (id := 12) hT rfl [] oTNtD15_12 (by decide +kernel) ?_; conv => whnf) | omega | (refine And.intro ?_ ?_; ((try dsimp only); first | omega | (refine szA rfl ?_; omega) | (refine szB rfl ?_; omega) | (unfold inI64; omega) | exact rfl | (simp only [lns] at *; omega) | decide | (unfold inI64; decide)); conv => whnf) | decide | assumption)
 all_goals try (exfalso; omega)
 · refine .ret _ ?_
   conv => whnf
   refine ⟨[], ⟨?_, rfl⟩, trivial⟩
   rw [List.take_length] at hb
   rw [if_pos (by omega)]
   rfl
 · rw [List.take_length] at hb
   refine .freeze _ 12 52 4 _ _ rfl (.weak _ ?_)
   conv => whnf
   refine ⟨.tup [.d (nmds (namL O h r l)), .d (.int .i64 0)], [], SV.le_tup ⟨by rw [List.take_length]; exact lr, lr, trivial⟩, ⟨?_, rfl⟩, trivial⟩
   rw [if_neg (by omega)]
def oTNtE24_6 : List (Nat × List Nat) := [(0, []), (1, [0]), (2, []), (3, []), (4, [0, 1, 2, 3]), (5, [0, 1, 2, 3, 4]), (6, [0, 1, 2, 3]), (7, [0, 1, 2, 3]), (8, [])]
theorem nmd_eq {a b : Nmd} : a = b ↔ ((a.ntc = b.ntc ∧ a.hire = b.hire) ∧ a.drv = b.drv) ∧ a.bby = b.bby := by cases a; cases b; simp [and_assoc]
instance : DecidableEq Nmd := fun _ _ => decidable_of_iff _ nmd_eq.symm
theorem z24 (l m : List Nmd) (hl : l.length ≤ 2^40) : FSpec Tryz.prog 24 [.d (nmds l), .d (nmds m)] [] (fun x r => x = .d (.bool (decide (l = m))) ∧ r = []) := by
 refine spec_of hT (C := []) Tryz.func24 rfl Tryz.call24 rfl rfl rfl ?_
 conv => whnf
 repeat' (first | (refine br_intro ?_ ?_ <;> intro hb <;> (try simp only [brs] at hb) <;> conv => whnf) | (refine RegX.rule (id := 6) hT rfl [] oTNtE24_6 (by decide +kernel) ?_; conv => whnf) | omega | (refine And.intro ?_ ?_; ((try dsimp only); first | omega | (refine szA rfl ?_; omega) | (refine szB rfl ?_; omega) | (unfold inI64; omega) | exact rfl | (simp only [lns] at *; omega) | decide | (unfold inI64; decide)); conv => whnf) | decide | assumption)
 · refine .ret _ ?_
   conv => whnf
   refine ⟨[], ⟨?_, rfl⟩, trivial⟩
   conv => lhs; whnf
   have : ¬ l = m := fun q => by subst q; simp at hb
   simp [this]
 have hlen : l.length = m.length := by
  omega
 refine LoopX.rule hT (C := []) (ι := Nat) (fun i => i ≤ l.length ∧ ∀ j, j < i → l.getD j nm0 = m.getD j nm0) (fun i => mkSt [(0, .d (nmds l)), (1, .d (nmds m)), (12, .d (.int .i64 l.length)), (13, .d (.int .i64 i))] []) (fun i => l.length - i) 0 ⟨by omega, by omega⟩ (by (refine Entails.mk' [] rfl rfl ?_ ?_ <;> repeat' (first | exact True.intro | exact lr | exact rr | exact SV.le_int (by omega) | exact SV.le_any _ | refine And.intro ?_ ?_)); done) ?_
 rintro i ⟨p1, p2⟩
 have e1 : (i : Int).toNat = i := Int.toNat_natCast i
 conv => whnf
 repeat' (first | (refine br_intro ?_ ?_ <;> intro hb <;> (try simp only [brs] at hb) <;> conv => whnf) | (refine RegX.rule (id := 6) hT rfl [] oTNtE24_6 (by decide +kernel) ?_; conv => whnf) | omega | (refine And.intro ?_ ?_; ((try dsimp only); first | omega | (refine szA rfl ?_; omega) | (refine szB rfl ?_; omega) | (unfold inI64; omega) | exact rfl | (simp only [lns] at *; omega) | decide | (unfold inI64; decide)); conv => whnf) | decide | assumption)
 · refine .ret _ ?_
   conv => whnf
   refine ⟨[], ⟨?_, rfl⟩, trivial⟩
   conv => lhs; whnf
   have : ¬ l = m := fun q => by subst q; simp at hb
   simp [this]
 · exact ⟨i + 1, ⟨by omega, all_step p2 (by rw [nmd_eq]; simpa [and_assoc] using hb)⟩, by omega, (by (refine Entails.mk' [] rfl rfl ?_ ?_ <;> repeat' (first | exact True.intro | exact lr | exact rr | exact SV.le_int (by omega) | exact SV.le_any _ | refine And.intro ?_ ?_)); done)⟩
 · refine .ret _ ?_
   conv => whnf
   refine ⟨[], ⟨?_, rfl⟩, trivial⟩
   conv => lhs; whnf
   have : i = l.length := by omega
   subst this
   simp [eq_of_getD nm0 hlen p2]
theorem take_setN {α : Type} {c : List α} {i : Nat} {x d : α} (h : i < c.length) : (c.set i x).take (i + 1) = c.take i ++ [x] := by
 rw [take_snocD (d := d) (by simpa using h)]
 congr 1
 · rw [List.take_set, List.set_eq_of_length_le (by rw [List.length_take]; omega)]
 · rw [List.getD_eq_getElem?_getD, List.getElem?_set_self h]; rfl
theorem filt_keep {l : List Plt} {q : Plt → Bool} {k : Nat} (hk : k < l.length) (h : q (l.getD k plt0) = false) : (l.take (k + 1)).filter (fun x => !q x) = (l.take k).filter (fun x => !q x) ++ [l.getD k plt0] := by
 rw [take_snocD (d := plt0) hk, List.filter_append, List.filter_cons_of_pos (by rw [h]; rfl), List.filter_nil]
theorem filt_drop {l : List Plt} {q : Plt → Bool} {k : Nat} (hk : k < l.length) (h : q (l.getD k plt0) = true) : (l.take (k + 1)).filter (fun x => !q x) = (l.take k).filter (fun x => !q x) := by
 rw [take_snocD (d := plt0) hk, List.filter_append, List.filter_cons_of_neg (by rw [h]; simp), List.filter_nil, List.append_nil]
theorem filt_all {l : List Plt} {q : Plt → Bool} {k : Nat} (hk : k ≤ l.length) (h : ∀ j, j < k → q (l.getD j plt0) = false) : (l.take k).filter (fun x => !q x) = l.take k := by
 rw [List.filter_eq_self]
 intro x hx
 obtain ⟨j, hj, rfl⟩ := mem_getD (d := plt0) hx
 rw [List.length_take] at hj
 rw [getD_take (by omega), h j (by omega)]; rfl
theorem ixF_first {p : Nat → Bool} : ∀ {n : Nat} (j : Nat), j < n → (ixF p n = -1 ∨ (j : Int) < ixF p n) → p j = false := by
 intro n
 induction n with
 | zero => intro j hj; omega
 | succ n ih =>
   intro j hj h
   rw [ixF] at h
   by_cases q : ixF p n = -1
   · rw [if_pos q] at h
     rcases Nat.lt_or_ge j n with r | r
     · exact ih j r (.inl q)
     · obtain rfl : j = n := by omega
       cases hp : p j with
       | false => rfl
       | true => rw [if_pos hp] at h; omega
   · rw [if_neg q] at h
     have hb := (ixF_bd (p := p) (n := n)).2.1
     exact ih j (by omega) (by omega)
def c245 (t : Int) (p : Plt) : Bool := decide (t < p.frm)
theorem z245 (p : Plt) (t : Int) : FSpec Tryz.prog 245 [.agg ((pltF p).map .d), .ptr 1000002 0] [(1000002, icC t)] (fun y r => y = .d (.bool (c245 t p)) ∧ r = [(1000002, icC t)]) := by
 refine spec_of hT (C := []) Tryz.func245 rfl Tryz.call245 rfl rfl rfl ?_
 conv => whnf
 refine .ret _ ?_
 conv => whnf
 exact ⟨[(1000002, icC t)], ⟨rfl, rfl⟩, rr, trivial⟩
theorem z161o (l : List Plt) (hl : l.length ≤ 2^20) (t : Int) : FSpec Tryz.prog 161 [.buf 1000001, .fn 245 [.ptr 1000002 0]] [(1000001, pltB l), (1000002, icC t)] (fun x r => x = .d (.int .i64 (ixF (fun i => c245 t (l.getD i plt0)) l.length)) ∧ r = [(1000001, pltB l), (1000002, icC t)]) := by
 refine spec_of hT (C := []) Tryz.func161 rfl Tryz.call161 rfl rfl rfl ?_
 conv => whnf
 refine LoopX.rule hT (C := []) (ι := Nat) (fun i => i ≤ l.length ∧ ∀ j, j < i → c245 t (l.getD j plt0) = false) (fun i => mkSt [(0, .buf 1000001), (1, .fn 245 [.ptr 1000002 0]), (7, .d (.int .i64 l.length)), (8, .d (.int .i64 i))] [(1000001, pltB l), (1000002, icC t)]) (fun i => l.length - i) 0 ⟨by omega, by omega⟩ (by (refine Entails.mk' [(1000001, 1000001), (1000002, 1000002)] rfl rfl ?_ ?_ <;> repeat' (first | exact True.intro | exact lr | exact rr | exact SV.le_int (by omega) | exact SV.le_any _ | refine And.intro ?_ ?_)); done) ?_
 rintro i ⟨p1, p2⟩
 have e1 : (i : Int).toNat = i := Int.toNat_natCast i
 conv => whnf
 repeat' (first | (refine CallX.of (z245 (l.getD (i : Int).toNat plt0) t) [(1000002, 1000002)] rfl ⟨lr, lr, trivial⟩ ⟨rr, trivial⟩ rfl rfl ?_; rintro x rout ⟨rfl, rfl⟩; refine ⟨rfl, ?_⟩; conv => whnf) | (refine br_intro ?_ ?_ <;> intro hb <;> (try simp only [brs] at hb) <;> conv => whnf) | omega | (refine And.intro ?_ ?_; ((try dsimp only); first | omega | (refine szA rfl ?_; omega) | (refine szB rfl ?_; omega) | (unfold inI64; omega) | exact rfl | (simp only [lns] at *; omega) | decide | (unfold inI64; decide)); conv => whnf) | decide | assumption)
 · refine .ret _ ?_
   conv => whnf
   refine ⟨[(1000001, pltB l), (1000002, icC t)], ⟨?_, rfl⟩, rr, rr, trivial⟩
   conv => lhs; whnf
   congr 2
   exact (ixF_hit (by omega) p2 (by simpa using hb)).symm
 · exact ⟨i + 1, ⟨by omega, all_step p2 (by simpa using hb)⟩, by omega, (by (refine Entails.mk' [(1000001, 1000001), (1000002, 1000002)] rfl rfl ?_ ?_ <;> repeat' (first | exact True.intro | exact lr | exact rr | exact SV.le_int (by omega) | exact SV.le_any _ | refine And.intro ?_ ?_)); done)⟩
 · refine .ret _ ?_
   conv => whnf
   refine ⟨[(1000001, pltB l), (1000002, icC t)], ⟨?_, rfl⟩, rr, rr, trivial⟩
   conv => lhs; whnf
   congr 2
   have : i = l.length := by omega
   subst this
   exact (ixF_none p2).symm
set_option maxHeartbeats 2000000 in
theorem z244a (l : List Plt) (hl : l.length ≤ 1000) (t : Int) : FSpec Tryz.prog 244 [.buf 1000001, .fn 245 [.ptr 1000002 0]] [(1000001, pltB l), (1000002, icC t)]
 (fun y r => ∃ d, (d = 1000001 ∨ d = 41) ∧ y = .buf d ∧ r = [(d, pltB (l.filter fun x => !c245 t x)), (1000002, icC t)]) := by
 have hbd := ixF_bd (p := fun i => c245 t (l.getD i plt0)) (n := l.length)
 have hfst := ixF_first (p := fun i => c245 t (l.getD i plt0)) (n := l.length)
 obtain ⟨J, hJ⟩ : ∃ J, J = ixF (fun i => c245 t (l.getD i plt0)) l.length := ⟨_, rfl⟩
 have hcI := z161o l (by omega) t
 rw [← hJ] at hbd hcI hfst
 refine spec_of hT (C := []) Tryz.func244 rfl Tryz.call244 rfl rfl rfl ?_
 conv => whnf
 refine CallX.of hcI [(1000001, 1000001), (1000002, 1000002)] rfl ⟨lr, lr, trivial⟩ ⟨rr, rr, trivial⟩ rfl rfl ?_
 rintro x rout ⟨rfl, rfl⟩
 refine ⟨rfl, ?_⟩
 conv => whnf
 repeat' (first | (refine br_intro ?_ ?_ <;> intro hb <;> (try simp only [brs] at hb) <;> conv => whnf) | omega | (refine And.intro ?_ ?_; ((try dsimp only); first | omega | (refine szA rfl ?_; omega) | (refine szB rfl ?_; omega) | (unfold inI64; omega) | exact rfl | (simp only [lns] at *; omega) | decide | (unfold inI64; decide)); conv => whnf) | decide | assumption)
 · have hno : l.filter (fun x => !c245 t x) = l := by
    have := filt_all (l := l) (q := c245 t) (k := l.length) (Nat.le_refl _) (fun j hj => hfst j (by omega) (.inl hb))
    rwa [List.take_length] at this
   refine .ret _ ?_
   conv => whnf
   exact ⟨_, ⟨1000001, .inl rfl, rfl, rfl⟩, by rw [hno]; exact rr, rr, trivial⟩
 obtain ⟨jN, rfl⟩ : ∃ jN : Nat, J = jN := ⟨J.toNat, by omega⟩
 have hj0 := hbd.2.2 (by omega)
 rw [Int.toNat_natCast] at hj0
 refine LoopX.rule hT (C := []) (ι := Nat × Nat × List Plt) (fun (i, k, c) => (i < k ∧ k ≤ l.length ∧ c.length = l.length) ∧ c.take i = (l.take k).filter (fun x => !c245 t x) ∧ ∀ s, k ≤ s → c.getD s plt0 = l.getD s plt0)
  (fun (i, k, c) => mkSt [(0, .buf 1000001), (1, .fn 245 [.ptr 1000002 0]), (5, .d (.int .i64 i)), (6, .d (.int .i64 k))] [(1000001, pltB c), (1000002, icC t)]) (fun (_, k, _) => l.length - k) (jN, jN + 1, l)
  ⟨⟨by show jN < jN + 1; omega, by show jN + 1 ≤ l.length; omega, rfl⟩, by show l.take jN = (l.take (jN + 1)).filter _; rw [filt_drop (by omega) hj0, filt_all (by omega) (fun j hj => hfst j (by omega) (.inr (by omega)))], fun s _ => rfl⟩
  (Entails.mk' [(1000001, 1000001), (1000002, 1000002)] rfl rfl ⟨lr, lr, lr, SV.le_int (by push_cast; omega), trivial⟩ ⟨rr, rr, trivial⟩) ?_
 rintro ⟨i, k, c⟩ ⟨⟨r1, r2, r3⟩, r4, r5⟩
 have r1 : i < k := r1
 have r2 : k ≤ l.length := r2
 have r3 : c.length = l.length := r3
 have r4 : c.take i = (l.take k).filter (fun x => !c245 t x) := r4
 have r5 : ∀ s, k ≤ s → c.getD s plt0 = l.getD s plt0 := r5
 have e1 : (k : Int).toNat = k := Int.toNat_natCast k
 have e2 : (i : Int).toNat = i := Int.toNat_natCast i
 have hck := r5 k (Nat.le_refl _)
 conv => whnf
 repeat' (first | (refine CallX.of (z245 (c.getD (k : Int).toNat plt0) t) [(1000002, 1000002)] rfl ⟨lr, lr, trivial⟩ ⟨rr, trivial⟩ rfl rfl ?_; rintro x rout ⟨rfl, rfl⟩; refine ⟨rfl, ?_⟩; conv => whnf) | (refine SliceX.first (lo := none) rfl ?_; conv => whnf) | (refine SliceX.look (lo := some _) rfl ?_; conv => whnf) | (refine br_intro ?_ ?_ <;> intro hb <;> (try simp only [brs] at hb) <;> conv => whnf) | omega | (refine And.intro ?_ ?_; ((try dsimp only); first | omega | (refine szA rfl ?_; omega) | (refine szB rfl ?_; omega) | (unfold inI64; omega) | exact rfl | (simp only [lns] at *; omega) | decide | (unfold inI64; decide)); conv => whnf) | decide | assumption)
 · have hb' : c245 t (l.getD k plt0) = false := by rw [← hck]; simpa using hb
   exact ⟨(i + 1, k + 1, c.set (i : Int).toNat (c.getD (k : Int).toNat plt0)), ⟨⟨by omega, by omega, by rw [List.length_set]; exact r3⟩, by rw [e1, e2, take_setN (d := plt0) (by omega), r4, filt_keep (by omega) hb', hck], fun s hs => by
    rw [List.getD_eq_getElem?_getD, List.getElem?_set_ne (by omega), ← List.getD_eq_getElem?_getD]; exact r5 s (by omega)⟩, (show l.length - (k + 1) < l.length - k by omega),
    Entails.mk' [(1000001, 1000001), (1000002, 1000002)] rfl rfl ⟨lr, lr, SV.le_int (by push_cast; omega), SV.le_int (by push_cast; omega), trivial⟩ ⟨Res.le_putF (fun _ _ => rfl), rr, trivial⟩⟩
 · have hb' : c245 t (l.getD k plt0) = true := by rw [← hck]; simpa using hb
   exact ⟨(i, k + 1, c), ⟨⟨by omega, by omega, r3⟩, by rw [filt_drop (by omega) hb']; exact r4, fun s hs => r5 s (by omega)⟩, (show l.length - (k + 1) < l.length - k by omega), Entails.mk' [(1000001, 1000001), (1000002, 1000002)] rfl rfl ⟨lr, lr, lr, SV.le_int (by push_cast; omega), trivial⟩ ⟨rr, rr, trivial⟩⟩
 · have hkl : k = l.length := by omega
   rw [hkl, List.take_length] at r4
   refine .ret _ ?_
   conv => whnf
   refine ⟨_, ⟨41, .inr rfl, rfl, rfl⟩, ?_, rr, trivial⟩
   rw [← r4]
   refine Res.le_buf (by rw [List.length_take]; omega) (fun s hs => ?_)
   have hs : s < i := by
    have : s < (i : Int).toNat := hs
    omega
   have h1 : Nat.ble (i : Int).toNat s = false := by
    rw [← Bool.not_eq_true, Nat.ble_eq]; omega
   show (bif Nat.ble (i : Int).toNat s && _ then _ else rowF pltF plt0 c s) = _
   rw [h1]
   simp only [Bool.false_and, cond_false, rowF]
   rw [getD_take hs]
def twL (p o : Plt) : Bool := decide (p.frm < o.frm) && (o.veh == p.veh || o.plt == p.plt)
theorem z247 (o p : Plt) : FSpec Tryz.prog 247 [.agg ((pltF o).map .d), .ptr 1000001 0] [(1000001, pltC p)] (fun y r => y = .d (.bool (twL p o)) ∧ r = [(1000001, pltC p)]) := by
 refine spec_of hT (C := []) Tryz.func247 rfl Tryz.call247 rfl rfl rfl ?_
 conv => whnf
 repeat' (first | (refine br_intro ?_ ?_ <;> intro hb <;> (try simp only [brs] at hb) <;> conv => whnf) | omega | (refine And.intro ?_ ?_; ((try dsimp only); first | omega | (refine szA rfl ?_; omega) | (refine szB rfl ?_; omega) | (unfold inI64; omega) | (simp only [lns] at *; omega) | decide | (unfold inI64; decide)); conv => whnf) | decide | assumption)
 all_goals
  refine .ret _ ?_
  conv => whnf
  refine ⟨[(1000001, pltC p)], ⟨?_, rfl⟩, rr, trivial⟩
  conv => lhs; whnf
  unfold twL
  congr 2
  first | grind | simp_all
theorem z161l (l : List Plt) (hl : l.length ≤ 2^40) (p : Plt) : FSpec Tryz.prog 161 [.d (plts l), .fn 247 [.ptr 1000001 0]] [(1000001, pltC p)] (fun x r => x = .d (.int .i64 (ixF (fun i => twL p (l.getD i plt0)) l.length)) ∧ r = [(1000001, pltC p)]) := by
 refine spec_of hT (C := []) Tryz.func161 rfl Tryz.call161 rfl rfl rfl ?_
 conv => whnf
 refine LoopX.rule hT (C := []) (ι := Nat) (fun i => i ≤ l.length ∧ ∀ j, j < i → twL p (l.getD j plt0) = false) (fun i => mkSt [(0, .d (plts l)), (1, .fn 247 [.ptr 1000001 0]), (7, .d (.int .i64 l.length)), (8, .d (.int .i64 i))] [(1000001, pltC p)]) (fun i => l.length - i) 0 ⟨by omega, by omega⟩ (by (refine Entails.mk' [(1000001, 1000001)] rfl rfl ?_ ?_ <;> repeat' (first | exact True.intro | exact lr | exact rr | exact SV.le_int (by omega) | exact SV.le_any _ | refine And.intro ?_ ?_)); done) ?_
 rintro i ⟨p1, p2⟩
 have e1 : (i : Int).toNat = i := Int.toNat_natCast i
 conv => whnf
 repeat' (first | (refine CallX.of (z247 (l.getD (i : Int).toNat plt0) p) [(1000001, 1000001)] rfl ⟨lr, lr, trivial⟩ ⟨rr, trivial⟩ rfl rfl ?_; rintro x rout ⟨rfl, rfl⟩; refine ⟨rfl, ?_⟩; conv => whnf) | (refine br_intro ?_ ?_ <;> intro hb <;> (try simp only [brs] at hb) <;> conv => whnf) | omega | (refine And.intro ?_ ?_; ((try dsimp only); first | omega | (refine szA rfl ?_; omega) | (refine szB rfl ?_; omega) | (unfold inI64; omega) | (simp only [lns] at *; omega) | decide | (unfold inI64; decide)); conv => whnf) | decide | assumption)
 · refine .ret _ ?_
   conv => whnf
   refine ⟨[(1000001, pltC p)], ⟨?_, rfl⟩, rr, trivial⟩
   conv => lhs; whnf
   congr 2
   exact (ixF_hit (by omega) p2 (by simpa using hb)).symm
 · exact ⟨i + 1, ⟨by omega, all_step p2 (by simpa using hb)⟩, by omega, (by (refine Entails.mk' [(1000001, 1000001)] rfl rfl ?_ ?_ <;> repeat' (first | exact True.intro | exact lr | exact rr | exact SV.le_int (by omega) | exact SV.le_any _ | refine And.intro ?_ ?_)); done)⟩
 · refine .ret _ ?_
   conv => whnf
   refine ⟨[(1000001, pltC p)], ⟨?_, rfl⟩, rr, trivial⟩
   conv => lhs; whnf
   congr 2
   have : i = l.length := by omega
   subst this
   exact (ixF_none p2).symm
theorem z87l (l : List Plt) (hl : l.length ≤ 2^40) (p : Plt) : FSpec Tryz.prog 87 [.d (plts l), .fn 247 [.ptr 1000001 0]] [(1000001, pltC p)] (fun x r => x = .d (.bool (l.any (twL p))) ∧ r = [(1000001, pltC p)]) := by
 refine spec_of hT (C := []) Tryz.func87 rfl Tryz.call87 rfl rfl rfl ?_
 conv => whnf
 repeat' (first | (refine CallX.of (z161l l hl p) [(1000001, 1000001)] rfl ⟨lr, lr, trivial⟩ ⟨rr, trivial⟩ rfl rfl ?_; rintro x rout ⟨rfl, rfl⟩; refine ⟨rfl, ?_⟩; conv => whnf) | (refine br_intro ?_ ?_ <;> intro hb <;> (try simp only [brs] at hb) <;> conv => whnf) | omega | (refine And.intro ?_ ?_; ((try dsimp only); first | omega | (refine szA rfl ?_; omega) | (refine szB rfl ?_; omega) | (unfold inI64; omega) | (simp only [lns] at *; omega) | decide | (unfold inI64; decide)); conv => whnf) | decide | assumption)
 refine .ret _ ?_
 conv => whnf
 refine ⟨[(1000001, pltC p)], ⟨?_, rfl⟩, rr, trivial⟩
 conv => lhs; whnf
 rw [← ix_any l plt0]
def c246 (E : List Plt) (p : Plt) : Bool := E.any (twL p)
def erC : Res := .cells 29 [.buf 1000003]
def erF (E : List Plt) : Res := .fro 3 E.length (rowF pltF plt0 E)
theorem z246 (p : Plt) (E : List Plt) (hE : E.length ≤ 2^40) : FSpec Tryz.prog 246 [.agg ((pltF p).map .d), .ptr 1000002 0] [(1000002, erC), (1000003, erF E)] (fun y r => y = .d (.bool (c246 E p)) ∧ r = [(1000002, erC), (1000003, erF E)]) := by
 refine spec_of hT (C := []) Tryz.func246 rfl Tryz.call246 rfl rfl rfl ?_
 conv => whnf
 repeat' (first | (refine CallX.of (z87l E hE p) [(1000001, 2)] rfl ⟨lr, lr, trivial⟩ ⟨rr, trivial⟩ rfl rfl ?_; rintro x rout ⟨rfl, rfl⟩; refine ⟨rfl, ?_⟩; conv => whnf) | (refine br_intro ?_ ?_ <;> intro hb <;> (try simp only [brs] at hb) <;> conv => whnf) | omega | (refine And.intro ?_ ?_; ((try dsimp only); first | omega | (refine szA rfl ?_; omega) | (refine szB rfl ?_; omega) | (unfold inI64; omega) | (simp only [lns] at *; omega) | decide | (unfold inI64; decide)); conv => whnf) | decide | assumption)
 refine .ret _ ?_
 conv => whnf
 exact ⟨[(1000002, erC), (1000003, erF E)], ⟨rfl, rfl⟩, rr, rr, trivial⟩
theorem z161e (l : List Plt) (hl : l.length ≤ 2^20) (E : List Plt) (hE : E.length ≤ 2^20) : FSpec Tryz.prog 161 [.buf 1000001, .fn 246 [.ptr 1000002 0]] [(1000001, pltB l), (1000002, erC), (1000003, erF E)] (fun x r => x = .d (.int .i64 (ixF (fun i => c246 E (l.getD i plt0)) l.length)) ∧ r = [(1000001, pltB l), (1000002, erC), (1000003, erF E)]) := by
 refine spec_of hT (C := []) Tryz.func161 rfl Tryz.call161 rfl rfl rfl ?_
 conv => whnf
 refine LoopX.rule hT (C := []) (ι := Nat) (fun i => i ≤ l.length ∧ ∀ j, j < i → c246 E (l.getD j plt0) = false) (fun i => mkSt [(0, .buf 1000001), (1, .fn 246 [.ptr 1000002 0]), (7, .d (.int .i64 l.length)), (8, .d (.int .i64 i))] [(1000001, pltB l), (1000002, erC), (1000003, erF E)]) (fun i => l.length - i) 0 ⟨by omega, by omega⟩ (by (refine Entails.mk' [(1000001, 1000001), (1000002, 1000002), (1000003, 1000003)] rfl rfl ?_ ?_ <;> repeat' (first | exact True.intro | exact lr | exact rr | exact SV.le_int (by omega) | exact SV.le_any _ | refine And.intro ?_ ?_)); done) ?_
 rintro i ⟨p1, p2⟩
 have e1 : (i : Int).toNat = i := Int.toNat_natCast i
 conv => whnf
 repeat' (first | (refine CallX.of (z246 (l.getD (i : Int).toNat plt0) E (by omega)) [(1000002, 1000002), (1000003, 1000003)] rfl ⟨lr, lr, trivial⟩ ⟨rr, rr, trivial⟩ rfl rfl ?_; rintro x rout ⟨rfl, rfl⟩; refine ⟨rfl, ?_⟩; conv => whnf) | (refine br_intro ?_ ?_ <;> intro hb <;> (try simp only [brs] at hb) <;> conv => whnf) | omega | (refine And.intro ?_ ?_; ((try dsimp only); first | omega | (refine szA rfl ?_; omega) | (refine szB rfl ?_; omega) | (unfold inI64; omega) | exact rfl | (simp only [lns] at *; omega) | decide | (unfold inI64; decide)); conv => whnf) | decide | assumption)
 · refine .ret _ ?_
   conv => whnf
   refine ⟨[(1000001, pltB l), (1000002, erC), (1000003, erF E)], ⟨?_, rfl⟩, rr, rr, rr, trivial⟩
   conv => lhs; whnf
   congr 2
   exact (ixF_hit (by omega) p2 (by simpa using hb)).symm
 · exact ⟨i + 1, ⟨by omega, all_step p2 (by simpa using hb)⟩, by omega, (by (refine Entails.mk' [(1000001, 1000001), (1000002, 1000002), (1000003, 1000003)] rfl rfl ?_ ?_ <;> repeat' (first | exact True.intro | exact lr | exact rr | exact SV.le_int (by omega) | exact SV.le_any _ | refine And.intro ?_ ?_)); done)⟩
 · refine .ret _ ?_
   conv => whnf
   refine ⟨[(1000001, pltB l), (1000002, erC), (1000003, erF E)], ⟨?_, rfl⟩, rr, rr, rr, trivial⟩
   conv => lhs; whnf
   congr 2
   have : i = l.length := by omega
   subst this
   exact (ixF_none p2).symm
set_option maxHeartbeats 2000000 in
theorem z244b (l : List Plt) (hl : l.length ≤ 1000) (E : List Plt) (hE : E.length ≤ 2^20) : FSpec Tryz.prog 244 [.buf 1000001, .fn 246 [.ptr 1000002 0]] [(1000001, pltB l), (1000002, erC), (1000003, erF E)]
 (fun y r => ∃ d, (d = 1000001 ∨ d = 41) ∧ y = .buf d ∧ r = [(d, pltB (l.filter fun x => !c246 E x)), (1000002, erC), (1000003, erF E)]) := by
 have hbd := ixF_bd (p := fun i => c246 E (l.getD i plt0)) (n := l.length)
 have hfst := ixF_first (p := fun i => c246 E (l.getD i plt0)) (n := l.length)
 obtain ⟨J, hJ⟩ : ∃ J, J = ixF (fun i => c246 E (l.getD i plt0)) l.length := ⟨_, rfl⟩
 have hcI := z161e l (by omega) E hE
 rw [← hJ] at hbd hcI hfst
 refine spec_of hT (C := []) Tryz.func244 rfl Tryz.call244 rfl rfl rfl ?_
 conv => whnf
 refine CallX.of hcI [(1000001, 1000001), (1000002, 1000002), (1000003, 1000003)] rfl ⟨lr, lr, trivial⟩ ⟨rr, rr, rr, trivial⟩ rfl rfl ?_
 rintro x rout ⟨rfl, rfl⟩
 refine ⟨rfl, ?_⟩
 conv => whnf
 repeat' (first | (refine br_intro ?_ ?_ <;> intro hb <;> (try simp only [brs] at hb) <;> conv => whnf) | omega | (refine And.intro ?_ ?_; ((try dsimp only); first | omega | (refine szA rfl ?_; omega) | (refine szB rfl ?_; omega) | (unfold inI64; omega) | exact rfl | (simp only [lns] at *; omega) | decide | (unfold inI64; decide)); conv => whnf) | decide | assumption)
 · have hno : l.filter (fun x => !c246 E x) = l := by
    have := filt_all (l := l) (q := c246 E) (k := l.length) (Nat.le_refl _) (fun j hj => hfst j (by omega) (.inl hb))
    rwa [List.take_length] at this
   refine .ret _ ?_
   conv => whnf
   exact ⟨_, ⟨1000001, .inl rfl, rfl, rfl⟩, by rw [hno]; exact rr, rr, rr, trivial⟩
 obtain ⟨jN, rfl⟩ : ∃ jN : Nat, J = jN := ⟨J.toNat, by omega⟩
 have hj0 := hbd.2.2 (by omega)
 rw [Int.toNat_natCast] at hj0
 refine LoopX.rule hT (C := []) (ι := Nat × Nat × List Plt) (fun (i, k, c) => (i < k ∧ k ≤ l.length ∧ c.length = l.length) ∧ c.take i = (l.take k).filter (fun x => !c246 E x) ∧ ∀ s, k ≤ s → c.getD s plt0 = l.getD s plt0)
  (fun (i, k, c) => mkSt [(0, .buf 1000001), (1, .fn 246 [.ptr 1000002 0]), (5, .d (.int .i64 i)), (6, .d (.int .i64 k))] [(1000001, pltB c), (1000002, erC), (1000003, erF E)]) (fun (_, k, _) => l.length - k) (jN, jN + 1, l)
  ⟨⟨by show jN < jN + 1; omega, by show jN + 1 ≤ l.length; omega, rfl⟩, by show l.take jN = (l.take (jN + 1)).filter _; rw [filt_drop (by omega) hj0, filt_all (by omega) (fun j hj => hfst j (by omega) (.inr (by omega)))], fun s _ => rfl⟩
  (Entails.mk' [(1000001, 1000001), (1000002, 1000002), (1000003, 1000003)] rfl rfl ⟨lr, lr, lr, SV.le_int (by push_cast; omega), trivial⟩ ⟨rr, rr, rr, trivial⟩) ?_
 rintro ⟨i, k, c⟩ ⟨⟨r1, r2, r3⟩, r4, r5⟩
 have r1 : i < k := r1
 have r2 : k ≤ l.length := r2
 have r3 : c.length = l.length := r3
 have r4 : c.take i = (l.take k).filter (fun x => !c246 E x) := r4
 have r5 : ∀ s, k ≤ s → c.getD s plt0 = l.getD s plt0 := r5
 have e1 : (k : Int).toNat = k := Int.toNat_natCast k
 have e2 : (i : Int).toNat = i := Int.toNat_natCast i
 have hck := r5 k (Nat.le_refl _)
 conv => whnf
 repeat' (first | (refine CallX.of (z246 (c.getD (k : Int).toNat plt0) E (by omega)) [(1000002, 1000002), (1000003, 1000003)] rfl ⟨lr, lr, trivial⟩ ⟨rr, rr, trivial⟩ rfl rfl ?_; rintro x rout ⟨rfl, rfl⟩; refine ⟨rfl, ?_⟩; conv => whnf) | (refine SliceX.first (lo := none) rfl ?_; conv => whnf) | (refine SliceX.look (lo := some _) rfl ?_; conv => whnf) | (refine br_intro ?_ ?_ <;> intro hb <;> (try simp only [brs] at hb) <;> conv => whnf) | omega | (refine And.intro ?_ ?_; ((try dsimp only); first | omega | (refine szA rfl ?_; omega) | (refine szB rfl ?_; omega) | (unfold inI64; omega) | exact rfl | (simp only [lns] at *; omega) | decide | (unfold inI64; decide)); conv => whnf) | decide | assumption)
 · have hb' : c246 E (l.getD k plt0) = false := by rw [← hck]; simpa using hb
   exact ⟨(i + 1, k + 1, c.set (i : Int).toNat (c.getD (k : Int).toNat plt0)), ⟨⟨by omega, by omega, by rw [List.length_set]; exact r3⟩, by rw [e1, e2, take_setN (d := plt0) (by omega), r4, filt_keep (by omega) hb', hck], fun s hs => by
    rw [List.getD_eq_getElem?_getD, List.getElem?_set_ne (by omega), ← List.getD_eq_getElem?_getD]; exact r5 s (by omega)⟩, (show l.length - (k + 1) < l.length - k by omega),
    Entails.mk' [(1000001, 1000001), (1000002, 1000002), (1000003, 1000003)] rfl rfl ⟨lr, lr, SV.le_int (by push_cast; omega), SV.le_int (by push_cast; omega), trivial⟩ ⟨Res.le_putF (fun _ _ => rfl), rr, rr, trivial⟩⟩
 · have hb' : c246 E (l.getD k plt0) = true := by rw [← hck]; simpa using hb
   exact ⟨(i, k + 1, c), ⟨⟨by omega, by omega, r3⟩, by rw [filt_drop (by omega) hb']; exact r4, fun s hs => r5 s (by omega)⟩, (show l.length - (k + 1) < l.length - k by omega), Entails.mk' [(1000001, 1000001), (1000002, 1000002), (1000003, 1000003)] rfl rfl ⟨lr, lr, lr, SV.le_int (by push_cast; omega), trivial⟩ ⟨rr, rr, rr, trivial⟩⟩
 · have hkl : k = l.length := by omega
   rw [hkl, List.take_length] at r4
   refine .ret _ ?_
   conv => whnf
   refine ⟨_, ⟨41, .inr rfl, rfl, rfl⟩, ?_, rr, rr, trivial⟩
   rw [← r4]
   refine Res.le_buf (by rw [List.length_take]; omega) (fun s hs => ?_)
   have hs : s < i := by
    have : s < (i : Int).toNat := hs
    omega
   have h1 : Nat.ble (i : Int).toNat s = false := by
    rw [← Bool.not_eq_true, Nat.ble_eq]; omega
   show (bif Nat.ble (i : Int).toNat s && _ then _ else rowF pltF plt0 c s) = _
   rw [h1]
   simp only [Bool.false_and, cond_false, rowF]
   rw [getD_take hs]
theorem z137r (l : List Plt) (hl : l.length ≤ 2^20) : FSpec Tryz.prog 137 [.d (plts l)] [] (fun y r => (y = .d .nilsl ∧ l = [] ∧ r = []) ∨ (y = .buf 7 ∧ r = [(7, pltB l)])) := by
 refine spec_of hT (C := [5]) Tryz.func137 rfl Tryz.call137 rfl rfl rfl ?_
 conv => whnf
 rintro b hbn
 conv => whnf
 repeat' (first | (refine br_intro ?_ ?_ <;> intro hb <;> (try simp only [brs] at hb) <;> conv => whnf) | omega | (refine And.intro ?_ ?_; ((try dsimp only); first | omega | (refine szA rfl ?_; omega) | (refine szB rfl ?_; omega) | (unfold inI64; omega) | exact rfl | (simp only [lns] at *; omega) | decide | (unfold inI64; decide)); conv => whnf) | decide | assumption)
 · have : l = [] := List.eq_nil_of_length_eq_zero (hbn (by assumption))
   refine .ret _ ?_
   conv => whnf
   exact ⟨_, .inl ⟨rfl, this, rfl⟩, trivial⟩
 · refine .ret _ ?_
   conv => whnf
   refine ⟨_, .inr ⟨rfl, rfl⟩, Res.le_buf (by simp) (fun i hi => ?_), trivial⟩
   rw [appGet_ge (by omega)]; rfl
def oTBlS230_4 : List (Nat × List Nat) := [(0, []), (1, [0]), (2, []), (3, []), (4, []), (5, [4]), (6, [4, 5]), (7, [4]), (8, [4]), (9, [4, 5, 6, 7, 8]), (10, [4, 5, 6, 7, 8, 9]), (11, [4, 5, 6, 7, 8, 9]), (12, [4, 5, 6, 7, 8]), (13, [4, 5, 6, 7, 8]), (14, []), (15, []), (16, [])]
def oTBlS230_6 : List (Nat × List Nat) := [(0, []), (1, [0]), (2, [0, 1]), (3, [0, 1, 2]), (4, [0, 1, 2]), (5, [0, 1, 2, 3, 4]), (6, [0, 1, 2, 3, 4, 5]), (7, [0, 1, 2, 3, 4, 5]), (8, [0, 1, 2, 3, 4]), (9, [0, 1, 2, 3, 4]), (10, [0, 1, 2, 3, 4, 5, 6, 7, 8, 9]), (11, [0, 1, 2, 3, 4, 5, 6, 7, 8, 9, 10]), (12, [0, 1, 2, 3, 4, 5, 6, 7, 8, 9]), (13, [0, 1, 2, 3, 4, 5, 6, 7, 8, 9]), (14, [2, 3, 4]), (15, [2, 3, 4]), (16, []), (17, [])]
def oTBlS170_17 : List (Nat × List Nat) := [(0, []), (1, []), (2, []), (3, []), (4, [3]), (5, [3, 4]), (6, [3, 4]), (7, [3]), (8, [3]), (9, [3, 4, 5, 6, 7, 8]), (10, [3, 4, 5, 6, 7, 8, 9]), (11, [3, 4, 5, 6, 7, 8]), (12, [3, 4, 5, 6, 7, 8]), (13, []), (14, []), (15, []), (16, [])]
theorem swap_midSh {A B : List Pair} {x y : Pair} {D b : List Pair} {j : Nat} (hb : (y :: A).reverse ++ [x] ++ B ++ D = b) (hj : j = A.length + 1) :
 b.getD j ([], 0) = x ∧ b.getD (j - 1) ([], 0) = y ∧ (b.set j y).set (j - 1) x = A.reverse ++ [x] ++ (y :: B) ++ D := by
 subst hj
 refine ⟨?_, ?_, ?_⟩
 · rw [← hb, show (y :: A).reverse ++ [x] ++ B ++ D = (y :: A).reverse ++ x :: (B ++ D) by simp]
   exact getD_mid _ _ _ _ (by simp)
 · rw [← hb, show (y :: A).reverse ++ [x] ++ B ++ D = A.reverse ++ y :: ([x] ++ B ++ D) by simp]
   exact getD_mid _ _ _ _ (by simp)
 · rw [← hb]
   have := swap_lemma A.reverse (B ++ D) x y
   simp only [List.length_reverse] at this
   simp only [List.reverse_cons, List.append_assoc, List.singleton_append, List.cons_append, List.nil_append, Nat.add_sub_cancel] at this ⊢
   exact this
theorem sInsSh (g : FuncId) (cmp : Pair → Pair → Int) (l : List Pair) (hl : l.length ≤ 2^40)
 (hcmp : ∀ p q, p ∈ l → q ∈ l → FSpec Tryz.prog g [.agg ((pF p).map .d), .agg ((pF q).map .d)] [] (fun y r => y = .d (.int .i64 (cmp p q)) ∧ r = [])) :
 FSpec Tryz.prog 230 [.buf 1000001, .d (.int .i64 0), .d (.int .i64 l.length), .fn g []] [(1000001, seqB 74 2 pF ([], 0) l)]
  (fun y r => y = .tup [] ∧ r = [(1000001, seqB 74 2 pF ([], 0) (isort cmp l))]) := by
 refine spec_of hT (C := []) Tryz.func230 rfl Tryz.call230 rfl rfl rfl ?_
 conv => whnf
 repeat' (first | (refine br_intro ?_ ?_ <;> intro hb <;> (try simp only [brs] at hb) <;> conv => whnf) | (refine RegX.rule (id := 4) hT rfl [] oTBlS230_4 (by decide +kernel) ?_; conv => whnf) | (refine RegX.rule (id := 6) hT rfl [] oTBlS230_6 (by decide +kernel) ?_; conv => whnf) | omega | (refine And.intro ?_ ?_; ((try dsimp only); first | omega | (refine szA rfl ?_; omega) | (refine szB rfl ?_; omega) | (unfold inI64; omega) | (simp only [lns] at *; omega) | decide | (unfold inI64; decide)); conv => whnf) | decide | assumption)
 refine LoopX.rule hT (C := []) (ι := Nat × List Pair) (fun (i, c) => 1 ≤ i ∧ (i ≤ l.length ∨ i = 1) ∧ c = (isortR cmp (l.take i)).reverse ++ l.drop i)
  (fun (i, c) => mkSt [(0, .buf 1000001), (1, .d (.int .i64 0)), (2, .d (.int .i64 l.length)), (3, .fn g []), (8, .d (.int .i64 i))] [(1000001, seqB 74 2 pF ([], 0) c)])
  (fun (i, _) => l.length - i) (1, l) ⟨by simp, by simp, by cases l with | nil => rfl | cons x l => simp [isortR, insR]⟩ (by (refine Entails.mk' [(1000001, 1000001)] rfl rfl ?_ ?_ <;> repeat' (first | exact True.intro | exact lr | exact rr | exact SV.le_int (by omega) | exact SV.le_any _ | refine And.intro ?_ ?_)); done) ?_
 rintro ⟨i, c⟩ ⟨p1, p2, p3⟩
 conv => whnf
 repeat' (first | (refine br_intro ?_ ?_ <;> intro hb <;> (try simp only [brs] at hb) <;> conv => whnf) | (refine RegX.rule (id := 4) hT rfl [] oTBlS230_4 (by decide +kernel) ?_; conv => whnf) | (refine RegX.rule (id := 6) hT rfl [] oTBlS230_6 (by decide +kernel) ?_; conv => whnf) | omega | (refine And.intro ?_ ?_; ((try dsimp only); first | omega | (refine szA rfl ?_; omega) | (refine szB rfl ?_; omega) | (unfold inI64; omega) | (simp only [lns] at *; omega) | decide | (unfold inI64; decide)); conv => whnf) | decide | assumption)
 · have hi : i < l.length := by omega
   have hx : l[i] ∈ l := List.getElem_mem hi
   have hmem : ∀ y ∈ isortR cmp (l.take i), y ∈ l := fun y hy => List.mem_of_mem_take ((isortR_mem cmp _).1 hy)
   have hlr : (isortR cmp (l.take i)).length = i := by rw [isortR_length, List.length_take]; omega
   have hc : c = (isortR cmp (l.take i)).reverse ++ [l[i]] ++ [] ++ l.drop (i + 1) := by rw [p3, List.drop_eq_getElem_cons hi]; simp
   refine LoopX.rule hT (C := []) (ι := List Pair × List Pair × List Pair) (fun (A, B, b) => insR cmp l[i] (isortR cmp (l.take i)) = B.reverse ++ insR cmp l[i] A ∧ A.length + B.length = i ∧ (∀ y ∈ A, y ∈ l) ∧ A.reverse ++ [l[i]] ++ B ++ l.drop (i + 1) = b)
    (fun (A, B, b) => mkSt [(0, .buf 1000001), (1, .d (.int .i64 0)), (2, .d (.int .i64 l.length)), (3, .fn g []), (8, .d (.int .i64 i)), (9, .d (.int .i64 A.length))] [(1000001, seqB 74 2 pF ([], 0) b)])
    (fun (A, _, _) => A.length) (isortR cmp (l.take i), [], c) ⟨by simp, by simpa using hlr, hmem, hc.symm⟩ ?_ ?_
   · exact Entails.mk' [(1000001, 1000001)] rfl rfl ⟨lr, lr, lr, lr, lr, SV.le_int (by omega), trivial⟩ ⟨rr, trivial⟩
   rintro ⟨A, B, b⟩ ⟨q1, q2, q3, hbd⟩
   have hlen : b.length = l.length := by rw [← hbd]; simp; omega
   have hfin : A = [] ∨ (∃ y A', A = y :: A' ∧ 0 ≤ cmp l[i] y) → isortR cmp (l.take (i + 1)) = B.reverse ++ l[i] :: A ∧ b = (isortR cmp (l.take (i + 1))).reverse ++ l.drop (i + 1) := fun h => by
    have e : isortR cmp (l.take (i + 1)) = B.reverse ++ l[i] :: A := by
     rw [take_snoc hi, isortR_snoc, q1]
     rcases h with rfl | ⟨y, A', rfl, h⟩
     · rfl
     · rw [insR, if_neg (by omega)]
    exact ⟨e, by rw [e, ← hbd]; simp⟩
   conv => whnf
   repeat' (first | (refine br_intro ?_ ?_ <;> intro hb <;> (try simp only [brs] at hb) <;> conv => whnf) | (refine RegX.rule (id := 4) hT rfl [] oTBlS230_4 (by decide +kernel) ?_; conv => whnf) | (refine RegX.rule (id := 6) hT rfl [] oTBlS230_6 (by decide +kernel) ?_; conv => whnf) | omega | (refine And.intro ?_ ?_; ((try dsimp only); first | omega | (refine szA rfl ?_; omega) | (refine szB rfl ?_; omega) | (unfold inI64; omega) | (simp only [lns] at *; omega) | decide | (unfold inI64; decide)); conv => whnf) | decide | assumption)
   · cases A with
     | nil => simp at hb
     | cons y A =>
     obtain ⟨g1, g2, g3⟩ := swap_midSh (j := (((y :: A).length : Int)).toNat) hbd (by simp)
     have ej : ((((y :: A).length : Int)) - 1).toNat = (((y :: A).length : Int)).toNat - 1 := by omega
     refine CallX.of (hcmp l[i] y hx (q3 y (by simp))) [] rfl ⟨by rw [← g1]; exact lr, by rw [← g2, ← ej]; exact lr, trivial⟩ trivial rfl rfl ?_
     rintro x rout ⟨rfl, rfl⟩
     refine ⟨rfl, ?_⟩
     conv => whnf
     repeat' (first | (refine br_intro ?_ ?_ <;> intro hb <;> (try simp only [brs] at hb) <;> conv => whnf) | (refine RegX.rule (id := 4) hT rfl [] oTBlS230_4 (by decide +kernel) ?_; conv => whnf) | (refine RegX.rule (id := 6) hT rfl [] oTBlS230_6 (by decide +kernel) ?_; conv => whnf) | omega | (refine And.intro ?_ ?_; ((try dsimp only); first | omega | (refine szA rfl ?_; omega) | (refine szB rfl ?_; omega) | (unfold inI64; omega) | (simp only [lns] at *; omega) | decide | (unfold inI64; decide)); conv => whnf) | decide | assumption)
     · refine ⟨(A, y :: B, _), ⟨by rw [q1]; simp [insR, hb], by simp only [List.length_cons] at q2 ⊢; omega, fun z hz => q3 z (by simp [hz]), ?_⟩, by show A.length < (y :: A).length; simp, Entails.mk' [(1000001, 1000001)] rfl rfl ⟨lr, lr, lr, lr, lr, SV.le_int (by simp only [List.length_cons]; omega), trivial⟩ ⟨Res.le_put2 (x := b.getD ((((y :: A).length : Int)) - 1).toNat ([], 0)) (y := b.getD (((y :: A).length : Int)).toNat ([], 0)) (fun _ => rfl) (fun _ => rfl), trivial⟩⟩
       rw [← g3, ej, g1, g2]
     · obtain ⟨_, h2⟩ := hfin (.inr ⟨y, A, rfl, hb⟩)
       exact ⟨(i + 1, b), ⟨by omega, by omega, h2⟩, by show l.length - (i + 1) < l.length - i; omega, (by (refine Entails.mk' [(1000001, 1000001)] rfl rfl ?_ ?_ <;> repeat' (first | exact True.intro | exact lr | exact rr | exact SV.le_int (by omega) | exact SV.le_any _ | refine And.intro ?_ ?_)); done)⟩
   · have hA : A = [] := List.length_eq_zero_iff.1 (by omega)
     obtain ⟨_, h2⟩ := hfin (.inl hA)
     exact ⟨(i + 1, b), ⟨by omega, by omega, h2⟩, by show l.length - (i + 1) < l.length - i; omega, (by (refine Entails.mk' [(1000001, 1000001)] rfl rfl ?_ ?_ <;> repeat' (first | exact True.intro | exact lr | exact rr | exact SV.le_int (by omega) | exact SV.le_any _ | refine And.intro ?_ ?_)); done)⟩
 · refine .ret _ ?_
   conv => whnf
   have e1 : c = isort cmp l := by
    rw [p3, List.take_of_length_le (by omega), List.drop_eq_nil_iff.2 (by omega), List.append_nil]; rfl
   subst e1
   exact ⟨_, ⟨rfl, rfl⟩, rr, trivial⟩
theorem sPdqSh (g : FuncId) (cmp : Pair → Pair → Int) (l : List Pair) (hl : l.length ≤ 12) (lim : Int)
 (hcmp : ∀ p q, p ∈ l → q ∈ l → FSpec Tryz.prog g [.agg ((pF p).map .d), .agg ((pF q).map .d)] [] (fun y r => y = .d (.int .i64 (cmp p q)) ∧ r = [])) :
 FSpec Tryz.prog 170 [.buf 1000001, .d (.int .i64 0), .d (.int .i64 l.length), .d (.int .i64 lim), .fn g []] [(1000001, seqB 74 2 pF ([], 0) l)]
  (fun y r => y = .tup [] ∧ r = [(1000001, seqB 74 2 pF ([], 0) (isort cmp l))]) := by
 refine spec_of hT (C := []) Tryz.func170 rfl Tryz.call170 rfl rfl rfl ?_
 conv => whnf
 refine LoopX.unroll hT (C := []) (fun _ _ h => h) (fun _ h => h) ?_
 conv => whnf
 repeat' (first | (refine br_intro ?_ ?_ <;> intro hb <;> (try simp only [brs] at hb) <;> conv => whnf) | (refine RegX.rule (id := 17) hT rfl [] oTBlS170_17 (by decide +kernel) ?_; conv => whnf) | omega | (refine And.intro ?_ ?_; ((try dsimp only); first | omega | (refine szA rfl ?_; omega) | (refine szB rfl ?_; omega) | (unfold inI64; omega) | (simp only [lns] at *; omega) | decide | (unfold inI64; decide)); conv => whnf) | decide | assumption)
 refine CallX.of (sInsSh g cmp l (by omega) hcmp) [(1000001, 1000001)] rfl ⟨lr, lr, lr, lr, trivial⟩ ⟨rr, trivial⟩ rfl rfl ?_
 rintro x rout ⟨rfl, rfl⟩
 refine ⟨rfl, ?_⟩
 conv => whnf
 refine .ret _ ?_
 conv => whnf
 exact ⟨_, ⟨rfl, rfl⟩, rr, trivial⟩
theorem sSortSh (g : FuncId) (cmp : Pair → Pair → Int) (l : List Pair) (hl : l.length ≤ 12)
 (hcmp : ∀ p q, p ∈ l → q ∈ l → FSpec Tryz.prog g [.agg ((pF p).map .d), .agg ((pF q).map .d)] [] (fun y r => y = .d (.int .i64 (cmp p q)) ∧ r = [])) :
 FSpec Tryz.prog 104 [.buf 1000001, .fn g []] [(1000001, seqB 74 2 pF ([], 0) l)]
  (fun y r => y = .tup [] ∧ r = [(1000001, seqB 74 2 pF ([], 0) (isort cmp l))]) := by
 refine spec_of hT (C := []) Tryz.func104 rfl Tryz.call104 rfl rfl rfl ?_
 conv => whnf
 repeat' (first | (refine br_intro ?_ ?_ <;> intro hb <;> (try simp only [brs] at hb) <;> conv => whnf) | omega | (refine And.intro ?_ ?_; ((try dsimp only); first | omega | (refine szA rfl ?_; omega) | (refine szB rfl ?_; omega) | (unfold inI64; omega) | (simp only [lns] at *; omega) | decide | (unfold inI64; decide)); conv => whnf) | decide | assumption)
 refine CallX.of (sBitsLen l.length hl) [] rfl ⟨lr, trivial⟩ trivial rfl rfl ?_
 rintro x rout ⟨⟨lim, rfl⟩, rfl⟩
 refine ⟨rfl, ?_⟩
 conv => whnf
 repeat' (first | (refine br_intro ?_ ?_ <;> intro hb <;> (try simp only [brs] at hb) <;> conv => whnf) | omega | (refine And.intro ?_ ?_; ((try dsimp only); first | omega | (refine szA rfl ?_; omega) | (refine szB rfl ?_; omega) | (unfold inI64; omega) | (simp only [lns] at *; omega) | decide | (unfold inI64; decide)); conv => whnf) | decide | assumption)
 refine CallX.of (sPdqSh g cmp l hl lim hcmp) [(1000001, 1000001)] rfl ⟨lr, lr, lr, lr, lr, trivial⟩ ⟨rr, trivial⟩ rfl rfl ?_
 rintro x rout ⟨rfl, rfl⟩
 refine ⟨rfl, ?_⟩
 conv => whnf
 refine .ret _ ?_
 conv => whnf
 exact ⟨_, ⟨rfl, rfl⟩, rr, trivial⟩
end Go.Proofs.YtcjfniddeibbhaaGreatDoor
namespace Go.Eng
open Go Go.Proofs Go.Sort Go.RowKit
def sortI (l : List Int) : List Int := l.mergeSort fun x y => decide (x ≤ y)
theorem sortI_perm (l : List Int) : (sortI l).Perm l := List.mergeSort_perm _ _
theorem sortI_length (l : List Int) : (sortI l).length = l.length := (sortI_perm l).length_eq
theorem sortI_sorted (l : List Int) : (sortI l).Pairwise fun x y => x ≤ y := by
 have := List.pairwise_mergeSort (le := fun x y : Int => decide (x ≤ y)) (fun a b c h1 h2 => by simp at *; omega) (fun a b => by simp; omega) l
 exact this.imp (fun h => by simpa using h)
theorem FSpec.sortI {P : Program} {f : FuncId} {e : TypeId} (henter : ∀ args w, (callFunc f args).run P w = .ok (.enter f args) w) (l : List Int) (h1 : 0 < l.length)
 (hc : ∀ (blk cap : Nat) (w : World), Holds (Value.int .i64) w blk 0 l.toArray → blk < w.heap.size → Calls P f #[.slice (some ⟨blk, 0, none⟩) l.length cap] w fun e' w' => e' = .returned (.tuple #[]) ∧ ∃ n os, w' = grow (putRow (Value.int .i64) (Sort.ahead w n) blk 0 (Go.Eng.sortI l).toArray) os) :
 FSpec P f [.buf 1000001] [(1000001, seqB e 1 iF 0 l)] (fun y r => y = .tup [] ∧ r = [(1000001, seqB e 1 iF 0 (Go.Eng.sortI l))]) := by
 refine ⟨henter, fun G β w vs hpre hvl hvd => ?_⟩
 match vs, hvl with
 | [v], _ =>
   have hv := hvd 0 _ _ rfl rfl
   cases hv with | buf _ _ hb _ =>
   have hR : lookL [(1000001, seqB e 1 iF 0 l)] 1000001 = some (seqB e 1 iF 0 l) := by simp [lookL]
   have hrow : ∀ {q : List Int} d r, lookL [(1000001, seqB e 1 iF 0 q)] d = some r → d = 1000001 ∧ r = seqB e 1 iF 0 q := by
    intro q d r hr
    simp only [lookL] at hr
    cases hq : Nat.beq d 1000001 with
    | false => rw [show (d.beq 1000001) = false from hq] at hr; cases hr
    | true => rw [show (d.beq 1000001) = true from hq] at hr; cases hr; exact ⟨Nat.eq_of_beq_eq_true hq, rfl⟩
   obtain ⟨v', xs, hv', hown, _, _, hden⟩ := hpre.rs _ _ hR
   rw [hb] at hv'; cases hv'
   rcases hown.2 with ⟨_, hz⟩ | ⟨g, cap, cur, rfl, hg, hh, hnc, hcm, hcz, htake⟩
   · omega
   have hxs : xs = l.map (Value.int .i64) := by
    apply List.ext_getElem
    · rw [hown.1]; simp
    intro i hi hi'
    have hil : i < l.length := by simpa using hi'
    obtain ⟨u, hu, hd⟩ := hden i 0 (.int .i64 (l.getD i 0)) hil rfl
    rw [Nat.mul_one, Nat.add_zero, List.getElem?_eq_getElem hi] at hu
    cases hu
    generalize xs[i] = z at hd
    cases hd
    simp [List.getD_eq_getElem?_getD, hil]
   have hgs : g < w.heap.size := (Array.getElem?_eq_some_iff.1 hh).1
   have hho := holds_of_blockI (ss := l) hh (by rw [← hxs, ← htake, Nat.mul_one])
   refine (hc g cap w hho hgs).mono ?_
   rintro e' w' ⟨rfl, n, os, rfl⟩
   have hgb := grownBy_sortedI (w := w) (g := g) (n := n) (os := os) (Go.Eng.sortI l).toArray
   have hrs := ownsRow_sortedI (w := w) (base := 0) (cap := cap) (n := n) (os := os) (sortI_length l) (Nat.zero_le _) hh hnc hcm hcz
   have hTin : Tin w β (lookL [(1000001, seqB e 1 iF 0 l)]) g := ⟨1000001, _, _, hR, rfl, hb, .of rfl⟩
   have hGg : G g = none := hpre.og _ _ _ g hR rfl hb (.of rfl)
   refine ⟨.tuple #[], .tup [], _, G, β, rfl, ⟨rfl, rfl⟩, ⟨Hp.le_refl G, Env.le_refl β, fun b o ho => ?_, fun b o ho => .inl ho, ⟨hgb.os, hgb.tape, hgb.output, hgb.size, fun b hlt hT => ?_⟩, fun d r hr => ?_, fun d d' r r' _ _ _ e1 e2 _ _ _ _ _ _ => ?_, fun d r u b e1 _ hu hbk => ?_⟩, .tup [] [] rfl (fun i x v hx => by simp at hx)⟩
   · have hw := hpre.gw b o ho
     rw [hgb.block b (Array.getElem?_eq_some_iff.1 hw).1 (fun q => by cases q; rw [hGg] at ho; cases ho)]; exact hw
   · exact hgb.block b hlt (fun q => by cases q; exact hT hTin)
   · obtain ⟨rfl, rfl⟩ := hrow d r hr
     refine ⟨_, _, hb, by rw [sortI_length]; exact hrs, by omega, fun i hi => rfl, fun i j x hi hx => ?_⟩
     have hj : j = 0 := by
      have := (List.getElem?_eq_some_iff.1 hx).1
      simp [rowF, iF] at this; omega
     subst hj
     simp [rowF, iF] at hx
     subst hx
     exact ⟨.int .i64 ((Go.Eng.sortI l).getD i 0), by rw [Nat.mul_one, Nat.add_zero]; simp [List.getD_eq_getElem?_getD, hi], .int _ _⟩
   · rw [(hrow d r e1).1, (hrow d' r' e2).1]
   · obtain ⟨rfl, rfl⟩ := hrow d r e1
     rw [hb] at hu; cases hu
     cases hbk.plain rfl
     exact ⟨hGg, .inl hTin⟩
end Go.Eng
namespace Go.Proofs
open Go.Shelf
def Tryz.lays189_ren : Go.Shelf.Ren := ⟨fun | 189 => 102 | 125 => 169 | 257 => 168 | 128 => 228 | 129 => 229 | 294 => 219 | 295 => 220 | 296 => 221 | 297 => 222 | 298 => 223 | 299 => 224 | 216 => 225 | 300 => 226 | 301 => 227 | 328 => 277 | 329 => 278 | 330 => 279 | 331 => 280 | 332 => 281 | 215 => 185 | 343 => 306 | n => n, fun | 28 => 22 | 3 => 3 | 46 => 242 | 0 => 0 | 51 => 305 | 53 => 307 | 4 => 4 | 183 => 298 | 182 => 297 | 131 => 254 | 5 => 5 | 9 => 9 | 218 => 349 | 222 => 353 | 228 => 370 | 229 => 92 | n => n, fun | n => n⟩
theorem Tryz.lays189 : Go.Proofs.Lays.n189 Tryz.prog Tryz.lays189_ren := {
 mixed := by kernel_rfl
 f125 := Tryz.func169.trans (congrArg some (by kernel_rfl))
 f128 := Tryz.func228.trans (congrArg some (by kernel_rfl))
 f129 := Tryz.func229.trans (congrArg some (by kernel_rfl))
 f189 := Tryz.func102.trans (congrArg some (by kernel_rfl))
 f215 := Tryz.func185.trans (congrArg some (by kernel_rfl))
 f216 := Tryz.func225.trans (congrArg some (by kernel_rfl))
 f257 := Tryz.func168.trans (congrArg some (by kernel_rfl))
 f294 := Tryz.func219.trans (congrArg some (by kernel_rfl))
 f295 := Tryz.func220.trans (congrArg some (by kernel_rfl))
 f296 := Tryz.func221.trans (congrArg some (by kernel_rfl))
 f297 := Tryz.func222.trans (congrArg some (by kernel_rfl))
 f298 := Tryz.func223.trans (congrArg some (by kernel_rfl))
 f299 := Tryz.func224.trans (congrArg some (by kernel_rfl))
 f300 := Tryz.func226.trans (congrArg some (by kernel_rfl))
 f301 := Tryz.func227.trans (congrArg some (by kernel_rfl))
 f328 := Tryz.func277.trans (congrArg some (by kernel_rfl))
 f329 := Tryz.func278.trans (congrArg some (by kernel_rfl))
 f330 := Tryz.func279.trans (congrArg some (by kernel_rfl))
 f331 := Tryz.func280.trans (congrArg some (by kernel_rfl))
 f332 := Tryz.func281.trans (congrArg some (by kernel_rfl))
 f343 := Tryz.func306.trans (congrArg some (by kernel_rfl))
 t0 := Tryz.underlying0
 a0 := Tryz.isAgg0
 z0 := Tryz.sizeOf0
 v0 := Tryz.zeroValue0
 t3 := Tryz.underlying3
 a3 := Tryz.isAgg3
 z3 := Tryz.sizeOf3
 v3 := Tryz.zeroValue3
 t4 := Tryz.underlying4
 a4 := Tryz.isAgg4
 z4 := Tryz.sizeOf4
 v4 := Tryz.zeroValue4
 t5 := Tryz.underlying5
 a5 := Tryz.isAgg5
 z5 := Tryz.sizeOf5
 v5 := Tryz.zeroValue5
 t9 := Tryz.underlying9
 a9 := Tryz.isAgg9
 z9 := Tryz.sizeOf9
 v9 := Tryz.zeroValue9
 t28 := Tryz.underlying22
 a28 := Tryz.isAgg22
 z28 := Tryz.sizeOf22
 v28 := Tryz.zeroValue22
 t46 := Tryz.underlying242
 a46 := Tryz.isAgg242
 z46 := Tryz.sizeOf242
 v46 := Tryz.zeroValue242
 t51 := Tryz.underlying305
 a51 := Tryz.isAgg305
 z51 := Tryz.sizeOf305
 v51 := Tryz.zeroValue305
 t53 := Tryz.underlying307
 a53 := Tryz.isAgg307
 z53 := Tryz.sizeOf307
 v53 := Tryz.zeroValue307
 t131 := Tryz.underlying254
 a131 := Tryz.isAgg254
 z131 := Tryz.sizeOf254
 v131 := Tryz.zeroValue254
 t182 := Tryz.underlying297
 a182 := Tryz.isAgg297
 z182 := Tryz.sizeOf297
 v182 := Tryz.zeroValue297
 t183 := Tryz.underlying298
 a183 := Tryz.isAgg298
 z183 := Tryz.sizeOf298
 v183 := Tryz.zeroValue298
 t218 := Tryz.underlying349
 a218 := Tryz.isAgg349
 z218 := Tryz.sizeOf349
 v218 := Tryz.zeroValue349
 t222 := Tryz.underlying353
 a222 := Tryz.isAgg353
 z222 := Tryz.sizeOf353
 v222 := Tryz.zeroValue353
 t228 := Tryz.underlying370
 a228 := Tryz.isAgg370
 z228 := Tryz.sizeOf370
 v228 := Tryz.zeroValue370
 t229 := Tryz.underlying92
 a229 := Tryz.isAgg92
 z229 := Tryz.sizeOf92
 v229 := Tryz.zeroValue92 }
end Go.Proofs
set_option maxRecDepth 20000
namespace Go.Proofs.YtcjfniddeibbhaaGreatDoor
open Go Go.Eng
theorem z102 (l : List Int) (h1 : 0 < l.length) (hl : l.length < 2^40) : FSpec Tryz.prog 102 [.buf 1000001] [(1000001, seqB 3 1 iF 0 l)] (fun y r => y = .tup [] ∧ r = [(1000001, seqB 3 1 iF 0 (sortI l))]) := by
 have e : Tryz.lays189_ren.f 189 = 102 := rfl
 refine FSpec.sortI Tryz.call102 l h1 (fun blk cap w hH hb => ?_)
 have := Any.slices_Sort_int Tryz.lays189 blk 0 cap l w hH hb (by omega)
 rw [e] at this
 exact this
theorem less_tot : ∀ {a b : List UInt8}, Op.bytesLess a b = false → a ≠ b → Op.bytesLess b a = true := by
 intro a
 induction a with
 | nil => intro b h hn; cases b with
   | nil => exact absurd rfl hn
   | cons y b => simp [Op.bytesLess] at h
 | cons x a ih =>
   intro b h hn
   cases b with
   | nil => rfl
   | cons y b =>
     simp only [Op.bytesLess] at h ⊢
     by_cases hxy : x = y
     · subst hxy
       simp at h ⊢
       exact ih h (fun q => hn (by rw [q]))
     · rcases Nat.lt_or_gt_of_ne (fun q => hxy (UInt8.toNat_inj.1 q)) with q | q
       · have : x < y := UInt8.lt_iff_toNat_lt.2 q
         simp [this] at h
       · have : y < x := UInt8.lt_iff_toNat_lt.2 q
         simp [this]
theorem uniq_sorted {α : Type} (R : α → α → Prop) (ir : ∀ a, ¬ R a a) (tr : ∀ a b c, R a b → R b c → R a c) : ∀ {l m : List α}, l.Pairwise R → m.Pairwise R → (∀ x, x ∈ l ↔ x ∈ m) → l = m := by
 intro l
 induction l with
 | nil =>
   intro m _ _ h
   cases m with
   | nil => rfl
   | cons y m => exact absurd ((h y).2 (by simp)) (by simp)
 | cons x l ih =>
   intro m hl hm h
   cases m with
   | nil => exact absurd ((h x).1 (by simp)) (by simp)
   | cons y m =>
     rw [List.pairwise_cons] at hl hm
     have hxy : x = y := by
      rcases List.mem_cons.1 ((h x).1 (by simp)) with q | q
      · exact q
      · rcases List.mem_cons.1 ((h y).2 (by simp)) with q2 | q2
        · exact q2.symm
        · exact absurd (tr _ _ _ (hm.1 x q) (hl.1 y q2)) (ir _)
     subst hxy
     rw [ih hl.2 hm.2 (fun z => ⟨fun hz => ?_, fun hz => ?_⟩)]
     · rcases List.mem_cons.1 ((h z).1 (by simp [hz])) with q | q
       · subst q; exact absurd (hl.1 z hz) (ir _)
       · exact q
     · rcases List.mem_cons.1 ((h z).2 (by simp [hz])) with q | q
       · subst q; exact absurd (hm.1 z hz) (ir _)
       · exact q
theorem nodup_len {α : Type} : ∀ {l m : List α}, l.Nodup → (∀ x ∈ l, x ∈ m) → l.length ≤ m.length := by
 intro l
 induction l with
 | nil => intro m _ _; simp
 | cons x l ih =>
   intro m hn h
   rw [List.nodup_cons] at hn
   obtain ⟨A, B, rfl⟩ := List.append_of_mem (h x (by simp))
   have := ih (m := A ++ B) hn.2 (fun z hz => by
    rcases List.mem_append.1 (h z (by simp [hz])) with q | q
    · exact List.mem_append_left _ q
    · rcases List.mem_cons.1 q with q | q
      · subst q; exact absurd hz hn.1
      · exact List.mem_append_right _ q)
   simp at this ⊢; omega
def clp (a b x : Int) : Int := min (max x a) b
def cutL (a b : Int) (x : Leg) : List Int := [clp a b x.out.tm, clp a b (lastE x)]
def cutH (a b : Int) (h : Hir) : List Int := h.legs.flatMap (cutL a b)
def cutsG (a b : Int) (l : List Hir) : List Int := [a, b] ++ l.flatMap (cutH a b)
theorem cutsG_mem {a b : Int} (hab : a ≤ b) {l : List Hir} {e : Int} (h : e ∈ cutsG a b l) : a ≤ e ∧ e ≤ b := by
 unfold cutsG at h
 rcases List.mem_append.1 h with q | q
 · simp at q; omega
 · obtain ⟨g, _, hg⟩ := List.mem_flatMap.1 q
   unfold cutH at hg
   obtain ⟨x, _, hx⟩ := List.mem_flatMap.1 hg
   unfold cutL clp at hx
   simp at hx
   omega
section
variable {v : List UInt8} {a b : Int} {l : List Hir}
theorem cuts_pos : 2 ≤ (sortI (cutsG a b l)).length := by rw [sortI_length]; simp [cutsG]
theorem sort_le {C : List Int} (hs : C.Pairwise fun x y => x ≤ y) {i j : Nat} (hij : i ≤ j) (hj : j < C.length) : C.getD i 0 ≤ C.getD j 0 := by
 rcases Nat.lt_or_eq_of_le hij with q | q
 · rw [List.getD_eq_getElem?_getD, List.getD_eq_getElem?_getD, List.getElem?_eq_getElem (by omega : i < C.length), List.getElem?_eq_getElem hj]
   exact List.pairwise_iff_getElem.1 hs i j (by omega) hj q
 · subst q; exact Int.le_refl _
theorem cuts_bd (hab : a ≤ b) {i : Nat} (hi : i < (sortI (cutsG a b l)).length) : a ≤ (sortI (cutsG a b l)).getD i 0 ∧ (sortI (cutsG a b l)).getD i 0 ≤ b :=
 cutsG_mem hab ((sortI_perm _).mem_iff.1 (getD_mem hi))
theorem cuts_first (hab : a ≤ b) : (sortI (cutsG a b l)).getD 0 0 = a := by
 have hm : a ∈ sortI (cutsG a b l) := (sortI_perm _).mem_iff.2 (by simp [cutsG])
 obtain ⟨j, hj, hja⟩ := mem_getD (d := 0) hm
 have h1 := sort_le (sortI_sorted (cutsG a b l)) (Nat.zero_le j) hj
 have h2 := (cuts_bd (l := l) hab (i := 0) (by omega)).1
 omega
theorem cuts_last (hab : a ≤ b) : (sortI (cutsG a b l)).getD ((sortI (cutsG a b l)).length - 1) 0 = b := by
 have hm : b ∈ sortI (cutsG a b l) := (sortI_perm _).mem_iff.2 (by simp [cutsG])
 obtain ⟨j, hj, hja⟩ := mem_getD (d := 0) hm
 have h1 := sort_le (sortI_sorted (cutsG a b l)) (show j ≤ (sortI (cutsG a b l)).length - 1 by omega) (by omega)
 have h2 := (cuts_bd (l := l) hab (i := (sortI (cutsG a b l)).length - 1) (by omega)).2
 omega
theorem cuts_apart {i : Nat} (h0 : 0 < i) (hi : i < (sortI (cutsG a b l)).length) {e : Int} (he : e ∈ cutsG a b l) : e ≤ (sortI (cutsG a b l)).getD (i - 1) 0 ∨ (sortI (cutsG a b l)).getD i 0 ≤ e := by
 obtain ⟨j, hj, hje⟩ := mem_getD (d := 0) ((sortI_perm _).mem_iff.2 he)
 rcases Nat.lt_or_ge j i with q | q
 · exact .inl (by have := sort_le (sortI_sorted (cutsG a b l)) (show j ≤ i - 1 by omega) (by omega); omega)
 · exact .inr (by have := sort_le (sortI_sorted (cutsG a b l)) q hj; omega)
theorem occ_const (hab : a ≤ b) {i : Nat} (h0 : 0 < i) (hi : i < (sortI (cutsG a b l)).length) {t : Int} (h1 : (sortI (cutsG a b l)).getD (i - 1) 0 ≤ t) (h2 : t < (sortI (cutsG a b l)).getD i 0) {h : Hir} (hh : h ∈ l) :
 occ v h t = occ v h ((sortI (cutsG a b l)).getD (i - 1) 0) := by
 have hb1 := cuts_bd (l := l) hab (i := i - 1) (by omega)
 have hb2 := cuts_bd (l := l) hab hi
 unfold occ
 have key : ∀ x ∈ h.legs, onL v x t = onL v x ((sortI (cutsG a b l)).getD (i - 1) 0) := fun x hx => by
  have m1 : clp a b x.out.tm ∈ cutsG a b l := List.mem_append_right _ (List.mem_flatMap.2 ⟨h, hh, List.mem_flatMap.2 ⟨x, hx, by simp [cutL]⟩⟩)
  have m2 : clp a b (lastE x) ∈ cutsG a b l := List.mem_append_right _ (List.mem_flatMap.2 ⟨h, hh, List.mem_flatMap.2 ⟨x, hx, by simp [cutL]⟩⟩)
  have a1 := cuts_apart h0 hi m1
  have a2 := cuts_apart h0 hi m2
  unfold clp at a1 a2
  unfold onL
  congr 1
  rw [Bool.eq_iff_iff]
  simp only [Bool.and_eq_true, decide_eq_true_eq]
  omega
 rw [Bool.eq_iff_iff, List.any_eq_true, List.any_eq_true]
 exact ⟨fun ⟨x, hx, hq⟩ => ⟨x, hx, by rw [← key x hx]; exact hq⟩, fun ⟨x, hx, hq⟩ => ⟨x, hx, by rw [key x hx]; exact hq⟩⟩
theorem who_const (hab : a ≤ b) {i : Nat} (h0 : 0 < i) (hi : i < (sortI (cutsG a b l)).length) {t : Int} (h1 : (sortI (cutsG a b l)).getD (i - 1) 0 ≤ t) (h2 : t < (sortI (cutsG a b l)).getD i 0) :
 whoL v l t = whoL v l ((sortI (cutsG a b l)).getD (i - 1) 0) := by
 unfold whoL
 congr 1
 exact List.filter_congr fun h hh => occ_const hab h0 hi h1 h2 hh
def keyB1 (k : List UInt8) : List (List UInt8) := if k = [] then [] else [k]
def wtK (v : List UInt8) (l : List Hir) (a : Int) (k : List UInt8) (t : Int) : Int := sm (fun u => b2i (decide (whoL v l u = keyB1 k))) a t
theorem wtK_nonneg (k : List UInt8) (t : Int) : 0 ≤ wtK v l a k t := sm_nonneg fun _ _ _ => b2i_nonneg _
theorem wtK_le (k : List UInt8) {t : Int} (h : a ≤ t) : wtK v l a k t ≤ t - a := by
 have h1 : sm (fun _ => 1) a t = wtK v l a k t + sm (fun u => b2i (!decide (whoL v l u = keyB1 k))) a t := by
  unfold wtK
  rw [← sm_plus]
  refine sm_congr fun u _ _ => ?_
  cases decide (whoL v l u = keyB1 k) <;> rfl
 have h2 := sm_nonneg (f := fun u => b2i (!decide (whoL v l u = keyB1 k))) (a := a) (b := t) (fun _ _ _ => b2i_nonneg _)
 rw [sm_const h] at h1
 omega
theorem wtK_step (hab : a ≤ b) {i : Nat} (h0 : 0 < i) (hi : i < (sortI (cutsG a b l)).length) (k : List UInt8) :
 wtK v l a k ((sortI (cutsG a b l)).getD i 0) = wtK v l a k ((sortI (cutsG a b l)).getD (i - 1) 0) + (if whoL v l ((sortI (cutsG a b l)).getD (i - 1) 0) = keyB1 k then (sortI (cutsG a b l)).getD i 0 - (sortI (cutsG a b l)).getD (i - 1) 0 else 0) := by
 have hb1 := cuts_bd (l := l) hab (i := i - 1) (by omega)
 have hle := sort_le (sortI_sorted (cutsG a b l)) (show i - 1 ≤ i by omega) hi
 unfold wtK
 rw [sm_add hb1.1 hle]
 congr 1
 rw [sm_congr (g := fun _ => b2i (decide (whoL v l ((sortI (cutsG a b l)).getD (i - 1) 0) = keyB1 k))) (fun t h1 h2 => by rw [who_const hab h0 hi h1 h2]), sm_const hle]
 unfold b2i
 by_cases q : whoL v l ((sortI (cutsG a b l)).getD (i - 1) 0) = keyB1 k
 · rw [if_pos q, decide_eq_true q]; simp
 · rw [if_neg q, decide_eq_false q]; simp
theorem wtK_other (hk : ∀ h ∈ l, h.key ≠ []) {k : List UInt8} (h0 : k ≠ []) (hn : ∀ h ∈ l, h.key ≠ k) (t : Int) (ht : a ≤ t) : wtK v l a k t = 0 := by
 unfold wtK
 rw [sm_congr (g := fun _ => 0) (fun u _ _ => by
  unfold b2i
  rw [decide_eq_false, if_neg (by simp)]
  intro e
  unfold keyB1 at e
  rw [if_neg h0] at e
  have : k ∈ whoL v l u := by rw [e]; simp
  obtain ⟨h, hh, hhk⟩ := List.mem_map.1 this
  exact hn h (List.mem_filter.1 hh).1 hhk), sm_const ht]; simp
theorem wtK_nil (hab : a ≤ b) (hs : ∀ h ∈ l, lgSeq h.legs) (hn : ¬ clash v a b l) : wtK v l a [] b = offi v a b l := (offi_sm hab hs hn).symm
theorem wtK_hire (hab : a ≤ b) (hs : ∀ h ∈ l, lgSeq h.legs) (hn : ¬ clash v a b l) (hk : l.Pairwise fun g h => g.key ≠ h.key) (hne : ∀ h ∈ l, h.key ≠ []) {h : Hir} (hm : h ∈ l) : wtK v l a h.key b = hadS v a b h := by
 rw [hadS_who hab hs hn hk hm]
 unfold wtK keyB1
 rw [if_neg (hne h hm)]
end
def wtsQ (v : List UInt8) (a b : Int) (l : List Hir) : List Pair := if a = b then [([], 1)] else wtsP v a b l
def wtQ (v : List UInt8) (a b : Int) (l : List Hir) (k : List UInt8) : Int := if a = b then (if k = [] then 1 else 0) else wtK v l a k b
theorem key_sorted {l : List Hir} (h : hirsE l = 0) : (∀ g ∈ l, g.key ≠ []) ∧ l.Pairwise fun g h => Op.bytesLess g.key h.key = true := by
 have hq := hirs_seq h
 refine ⟨fun g hg e => ?_, ?_⟩
 · have := hq.1 g hg
   unfold hirE at this
   rw [if_pos (.inl (by rw [e]; decide))] at this
   cases this
 · have next : ∀ i, i + 1 < l.length → Op.bytesLess (l.getD i hi0).key (l.getD (i + 1) hi0).key = true := fun i hi => by
    have := hq.2 (i + 1) (by omega) hi
    rw [Nat.add_sub_cancel] at this
    unfold strLe at this
    rw [Bool.or_eq_false_iff] at this
    exact less_tot this.1 (by simpa using this.2)
   have all : ∀ d i, i + d + 1 < l.length → Op.bytesLess (l.getD i hi0).key (l.getD (i + d + 1) hi0).key = true := by
    intro d
    induction d with
    | zero => intro i hi; exact next i hi
    | succ d ih => intro i hi; exact less_trans (ih i (by omega)) (next (i + d + 1) hi)
   rw [List.pairwise_iff_getElem]
   intro i j hi hj hij
   have := all (j - i - 1) i (by omega)
   rw [show i + (j - i - 1) + 1 = j by omega, List.getD_eq_getElem?_getD, List.getD_eq_getElem?_getD, List.getElem?_eq_getElem hi, List.getElem?_eq_getElem hj] at this
   exact this
theorem lessNil2 {k : List UInt8} (h : k ≠ []) : Op.bytesLess [] k = true := by cases k with | nil => exact absurd rfl h | cons x k => rfl
section
variable {v : List UInt8} {a b : Int} {l : List Hir}
theorem prts_sorted (hk : l.Pairwise fun g h => Op.bytesLess g.key h.key = true) : (prts v a b l).Pairwise fun p q => Op.bytesLess p.1 q.1 = true := by
 unfold prts
 refine List.Pairwise.filter _ ?_
 rw [List.pairwise_map]
 exact hk
theorem wtsQ_sorted (h0 : ∀ g ∈ l, g.key ≠ []) (hk : l.Pairwise fun g h => Op.bytesLess g.key h.key = true) : (wtsQ v a b l).Pairwise fun p q => Op.bytesLess p.1 q.1 = true := by
 unfold wtsQ
 split
 · simp
 · unfold wtsP
   split
   · rw [List.pairwise_cons]
     refine ⟨fun p hp => ?_, prts_sorted hk⟩
     obtain ⟨_, g, hg, e⟩ := prts_mem hp
     rw [e]; exact lessNil2 (h0 g hg)
   · exact prts_sorted hk
theorem wtsQ_mem (hab : a ≤ b) (hs : ∀ h ∈ l, lgSeq h.legs) (hn : ¬ clash v a b l) (h0 : ∀ g ∈ l, g.key ≠ []) (hk : l.Pairwise fun g h => Op.bytesLess g.key h.key = true) (p : Pair) :
 p ∈ wtsQ v a b l ↔ 0 < wtQ v a b l p.1 ∧ p.2 = wtQ v a b l p.1 := by
 have hd : l.Pairwise fun g h => g.key ≠ h.key := hk.imp fun h e => by rw [e, less_irr] at h; cases h
 unfold wtsQ wtQ
 by_cases hE : a = b
 · rw [if_pos hE, if_pos hE]
   by_cases q : p.1 = []
   · rw [if_pos q]; simp [Prod.ext_iff, q]
   · rw [if_neg q]; simp [Prod.ext_iff, q]
 · rw [if_neg hE, if_neg hE]
   have inP : p ∈ prts v a b l ↔ p.1 ≠ [] ∧ 0 < wtK v l a p.1 b ∧ p.2 = wtK v l a p.1 b := by
    constructor
    · intro hp
      unfold prts at hp
      obtain ⟨h1, h2⟩ := List.mem_filter.1 hp
      obtain ⟨g, hg, rfl⟩ := List.mem_map.1 h1
      have := wtK_hire hab hs hn hd h0 hg
      refine ⟨h0 g hg, ?_, this.symm⟩
      show 0 < wtK v l a g.key b
      rw [this]; simpa using h2
    · rintro ⟨q1, q2, q3⟩
      by_cases hex : ∃ g ∈ l, g.key = p.1
      · obtain ⟨g, hg, e⟩ := hex
        have := wtK_hire hab hs hn hd h0 hg
        rw [e] at this
        unfold prts
        refine List.mem_filter.2 ⟨List.mem_map.2 ⟨g, hg, ?_⟩, by rw [q3]; simpa using q2⟩
        rw [← this, ← q3, e]
      · rw [wtK_other h0 q1 (fun g hg e => hex ⟨g, hg, e⟩) b hab] at q2
        omega
   have hnil := wtK_nil hab hs hn
   unfold wtsP
   by_cases ho : 0 < offi v a b l
   · rw [if_pos ho, List.mem_cons, inP]
     constructor
     · rintro (q | q)
       · rw [q]; show 0 < wtK v l a [] b ∧ offi v a b l = wtK v l a [] b
         rw [hnil]; exact ⟨ho, rfl⟩
       · exact q.2
     · rintro ⟨q1, q2⟩
       by_cases q : p.1 = []
       · left
         rw [q, hnil] at q2
         exact Prod.ext q q2
       · exact .inr ⟨q, q1, q2⟩
   · rw [if_neg ho, inP]
     constructor
     · exact fun q => q.2
     · rintro ⟨q1, q2⟩
       refine ⟨fun q => ?_, q1, q2⟩
       rw [q, hnil] at q1
       exact ho q1
end
theorem splitG_one {c : Int} (hc : 0 ≤ c) : splitG c [1] = [c] := by
 have hb := left_bound c [1] hc (by simp) (by simp)
 rw [splitG_eq c [1] hb]
 have e : splitE c [1] 0 = c := by
  unfold splitE
  have h1 : partG c [1] 0 = c := by simp [partG]
  have h2 : leftL c (partG c [1]) ([1] : List Int).length = 0 := by simp [leftL, h1]
  have h3 : 0 ≤ aheadG c [1] 0 ([1] : List Int).length := by
   unfold aheadG
   exact sum_nonneg fun x hx => by
    obtain ⟨k, _, rfl⟩ := List.mem_map.1 hx
    split <;> omega
  rw [h2, if_neg (by omega), h1]; omega
 simp [rngL, e]
theorem mkS_wtsQ {v : List UInt8} {a b c : Int} {l : List Hir} (hc : 0 ≤ c ∧ c ≤ 1000000000) (hn : ¬ clash v a b l) : blmE v a b l c = (mkS c (wtsQ v a b l), 0) := by
 unfold blmE wtsQ
 rw [if_neg hn, if_neg (by omega)]
 split
 · simp [mkS, splitG_one hc.1]
 · rfl
def wearV (l : List Plt) (p : List UInt8) (t : Int) : List UInt8 := ((findP (worn l t) p).map (·.veh)).getD []
def ownR (l : List Plt) (h : List Hir) (p : List UInt8) (t : Int) : List UInt8 := if wearV l p t = [] then [] else (withK (wearV l p t) h t).1
def keyIx (h : List Hir) (k : List UInt8) : Int := ixF (fun i => (h.getD i hi0).key == k) h.length
def nmdR (l : List Plt) (h : List Hir) (r : Ntr) (n : Ntc) : Option Nmd :=
 if ownR l h n.plate n.tm = [] then none else some ⟨n.key, ownR l h n.plate n.tm, (h.getD (keyIx h (ownR l h n.plate n.tm)).toNat hi0).drv, min ((n.came.tdiv 1440 + r.name + 1) * 1440) 5761440 - 1⟩
def nmdL (l : List Plt) (h : List Hir) (r : Ntr) (x : List Ntc) : List Nmd := x.filterMap (nmdR l h r)
theorem fltE_plt {f : Flt} (h : fltE f = 0) : ∀ j, j < f.plt.length → pltE1 f j = 0 := by
 unfold fltE at h
 have h0 : firstAt (pltE1 f) f.plt.length = 0 := by
  split at h
  · exact absurd h (by assumption)
  · split at h
    · exact absurd h (by assumption)
    · split at h
      · cases h
      · exact h
 exact firstAt_all h0
theorem fltE_mom {f : Flt} (h : fltE f = 0) : ∀ e ∈ f.plt, e.frm < 5761440 := by
 intro e he
 obtain ⟨j, hj, rfl⟩ := mem_getD (d := plt0) he
 have := fltE_plt h j hj
 unfold pltE1 at this
 grind
theorem fltE_apr {f : Flt} (h : fltE f = 0) : aprP f.plt := by
 have h1 := fltE_plt h
 unfold aprP
 rw [List.pairwise_iff_getElem]
 intro i j hi hj hij he
 have h2 := h1 j hj
 unfold pltE1 at h2
 have h3 : ((f.plt.take j).any (twP (f.plt.getD j plt0))) = false := by
  cases hq : ((f.plt.take j).any (twP (f.plt.getD j plt0))) with
  | false => rfl
  | true => rw [hq] at h2; grind
 rw [List.any_eq_false] at h3
 have h4 := h3 f.plt[i] (by rw [List.mem_take_iff_getElem]; exact ⟨i, by omega, rfl⟩)
 have e1 : f.plt.getD j plt0 = f.plt[j] := by rw [List.getD_eq_getElem?_getD, List.getElem?_eq_getElem hj]; rfl
 rw [e1] at h4
 unfold twP at h4
 unfold clashP
 grind
theorem look_wear {f : Flt} (h : fltE f = 0) {t : Int} (ht : t < 5761440) (p : List UInt8) : lookV ((hend f.plt).out p) t = wearV f.plt p t := by
 unfold lookV wearV
 rw [hend_eq (fltE_srt h).1 (fltE_mom h) ht p, worn_liv (fltE_srt h).1 (fltE_apr h) t]
theorem hir_with (h : List Hir) (v : List UInt8) (t : Int) : (withK v h t).1 = if hirIx h v t < 0 then [] else (h.getD (hirIx h v t).toNat hi0).key := by
 have hb := ixF_bd (p := fun i => occ v (h.getD i hi0) t) (n := h.length)
 have hf := ixF_first (p := fun i => occ v (h.getD i hi0) t) (n := h.length)
 unfold hirIx
 split
 · rw [withK_no (fun j hj => hf j hj (.inl (by omega)))]
 · rw [withK_yes (i := (ixF (fun i => occ v (h.getD i hi0) t) h.length).toNat) (by omega) (fun j hj => hf j (by omega) (.inr (by omega))) (hb.2.2 (by omega))]
theorem key_ix {h : List Hir} (hh : hirsE h = 0) {i : Nat} (hi : i < h.length) : keyIx h (h.getD i hi0).key = i := by
 refine ixF_hit hi (fun j hj => ?_) (by simp)
 have hp := (key_sorted hh).2
 rw [List.pairwise_iff_getElem] at hp
 have := hp j i (by omega) hi hj
 rw [List.getD_eq_getElem?_getD, List.getD_eq_getElem?_getD, List.getElem?_eq_getElem hi, List.getElem?_eq_getElem (by omega : j < h.length)]
 simp only [Option.getD_some]
 rw [beq_eq_false_iff_ne]
 intro e
 rw [e, less_irr] at this
 cases this
theorem own_key {f : Flt} {h : List Hir} (E1 : fltE f = 0) (E2 : hirsE h = 0) {t : Int} (ht : t < 5761440) (p : List UInt8) :
 (ownK ((hend f.plt).out p) h t < 0 ∧ ownR f.plt h p t = []) ∨ (0 ≤ ownK ((hend f.plt).out p) h t ∧ ownR f.plt h p t = (h.getD (ownK ((hend f.plt).out p) h t).toNat hi0).key ∧ ownR f.plt h p t ≠ [] ∧ keyIx h (ownR f.plt h p t) = ownK ((hend f.plt).out p) h t) := by
 unfold ownK ownR
 rw [look_wear E1 ht p, hir_with]
 have hb := hirIx_bd h (wearV f.plt p t) t
 by_cases q : wearV f.plt p t = []
 · rw [if_pos q, if_pos q]; exact .inl ⟨by decide, rfl⟩
 · rw [if_neg q, if_neg q]
   by_cases q2 : hirIx h (wearV f.plt p t) t < 0
   · rw [if_pos q2]; exact .inl ⟨q2, rfl⟩
   · rw [if_neg q2]
     have hi : (hirIx h (wearV f.plt p t) t).toNat < h.length := by omega
     refine .inr ⟨by omega, rfl, (key_sorted E2).1 _ (getD_mem hi), ?_⟩
     rw [key_ix E2 hi]; omega
theorem nam_eq {f : Flt} {h : List Hir} (E1 : fltE f = 0) (E2 : hirsE h = 0) (r : Ntr) (n : Ntc) (ht : n.tm < 5761440) : namOf (hend f.plt).out h r n = nmdR f.plt h r n := by
 unfold namOf nmdR
 rcases own_key E1 E2 ht n.plate with ⟨h1, h2⟩ | ⟨h1, h2, h3, h4⟩
 · rw [if_pos h1, if_pos h2]
 · rw [if_neg (by omega), if_neg h3, h4, h2]
   congr 2
   omega
theorem ntcs_tm {x : List Ntc} (E : ntcsE x = 0) : ∀ n ∈ x, n.tm < 5761440 := by
 intro n hn
 obtain ⟨j, hj, rfl⟩ := mem_getD (d := ntc0) hn
 unfold ntcsE at E
 split at E
 · cases E
 · have := firstAt_all E j hj
   unfold ntcE at this
   grind
theorem namL_eq {f : Flt} {h : List Hir} (E1 : fltE f = 0) (E2 : hirsE h = 0) (r : Ntr) {x : List Ntc} (E3 : ntcsE x = 0) : namL (hend f.plt).out h r x = nmdL f.plt h r x := by
 unfold namL nmdL
 have hx := ntcs_tm E3
 clear E3
 induction x with
 | nil => rfl
 | cons n x ih =>
   rw [List.filterMap_cons, List.filterMap_cons, nam_eq E1 E2 r n (hx n (by simp)), ih (fun m hm => hx m (by simp [hm]))]
theorem z137n : FSpec Tryz.prog 137 [.d .nilsl] [] (fun y r => y = .d .nilsl ∧ r = []) := by
 refine spec_of hT (C := []) Tryz.func137 rfl Tryz.call137 rfl rfl rfl ?_
 conv => whnf
 repeat' (first | (refine br_intro ?_ ?_ <;> intro hb <;> (try simp only [brs] at hb) <;> conv => whnf) | omega | (refine And.intro ?_ ?_; ((try dsimp only); first | omega | (refine szA rfl ?_; omega) | (refine szB rfl ?_; omega) | (unfold inI64; omega) | exact rfl | (simp only [lns] at *; omega) | decide | (unfold inI64; decide)); conv => whnf) | decide | assumption)
 refine .ret _ ?_
 conv => whnf
 refine ⟨[], ⟨?_, rfl⟩, trivial⟩
 conv => lhs; whnf
def earN : Res := .cells 29 [.d .nilsl]
theorem z161n (t : Int) : FSpec Tryz.prog 161 [.d .nilsl, .fn 245 [.ptr 1000002 0]] [(1000002, icC t)] (fun x r => x = .d (.int .i64 (-1)) ∧ r = [(1000002, icC t)]) := by
 refine spec_of hT (C := []) Tryz.func161 rfl Tryz.call161 rfl rfl rfl ?_
 conv => whnf
 refine LoopX.rule hT (C := []) (ι := Nat) (fun i => i = 0) (fun _ => mkSt [(0, .d .nilsl), (1, .fn 245 [.ptr 1000002 0]), (7, .d (.int .i64 0)), (8, .d (.int .i64 0))] [(1000002, icC t)]) (fun _ => 0) 0 rfl (by (refine Entails.mk' [(1000002, 1000002)] rfl rfl ?_ ?_ <;> repeat' (first | exact True.intro | exact lr | exact rr | exact SV.le_int (by omega) | exact SV.le_any _ | refine And.intro ?_ ?_)); done) ?_
 rintro i p1
 conv => whnf
 repeat' (first | (refine br_intro ?_ ?_ <;> intro hb <;> (try simp only [brs] at hb) <;> conv => whnf) | omega | (refine And.intro ?_ ?_; ((try dsimp only); first | omega | (refine szA rfl ?_; omega) | (refine szB rfl ?_; omega) | (unfold inI64; omega) | exact rfl | (simp only [lns] at *; omega) | decide | (unfold inI64; decide)); conv => whnf) | decide | assumption)
 refine .ret _ ?_
 conv => whnf
 exact ⟨[(1000002, icC t)], ⟨rfl, rfl⟩, rr, trivial⟩
theorem z161m : FSpec Tryz.prog 161 [.d .nilsl, .fn 246 [.ptr 1000002 0]] [(1000002, earN)] (fun x r => x = .d (.int .i64 (-1)) ∧ r = [(1000002, earN)]) := by
 refine spec_of hT (C := []) Tryz.func161 rfl Tryz.call161 rfl rfl rfl ?_
 conv => whnf
 refine LoopX.rule hT (C := []) (ι := Nat) (fun i => i = 0) (fun _ => mkSt [(0, .d .nilsl), (1, .fn 246 [.ptr 1000002 0]), (7, .d (.int .i64 0)), (8, .d (.int .i64 0))] [(1000002, earN)]) (fun _ => 0) 0 rfl (by (refine Entails.mk' [(1000002, 1000002)] rfl rfl ?_ ?_ <;> repeat' (first | exact True.intro | exact lr | exact rr | exact SV.le_int (by omega) | exact SV.le_any _ | refine And.intro ?_ ?_)); done) ?_
 rintro i p1
 conv => whnf
 repeat' (first | (refine br_intro ?_ ?_ <;> intro hb <;> (try simp only [brs] at hb) <;> conv => whnf) | omega | (refine And.intro ?_ ?_; ((try dsimp only); first | omega | (refine szA rfl ?_; omega) | (refine szB rfl ?_; omega) | (unfold inI64; omega) | exact rfl | (simp only [lns] at *; omega) | decide | (unfold inI64; decide)); conv => whnf) | decide | assumption)
 refine .ret _ ?_
 conv => whnf
 exact ⟨[(1000002, earN)], ⟨rfl, rfl⟩, rr, trivial⟩
theorem z161w (E : List Plt) : FSpec Tryz.prog 161 [.d .nilsl, .fn 246 [.ptr 1000002 0]] [(1000002, erC), (1000003, erF E)] (fun x r => x = .d (.int .i64 (-1)) ∧ r = [(1000002, erC), (1000003, erF E)]) := by
 refine spec_of hT (C := []) Tryz.func161 rfl Tryz.call161 rfl rfl rfl ?_
 conv => whnf
 refine LoopX.rule hT (C := []) (ι := Nat) (fun i => i = 0) (fun _ => mkSt [(0, .d .nilsl), (1, .fn 246 [.ptr 1000002 0]), (7, .d (.int .i64 0)), (8, .d (.int .i64 0))] [(1000002, erC), (1000003, erF E)]) (fun _ => 0) 0 rfl (by (refine Entails.mk' [(1000002, 1000002), (1000003, 1000003)] rfl rfl ?_ ?_ <;> repeat' (first | exact True.intro | exact lr | exact rr | exact SV.le_int (by omega) | exact SV.le_any _ | refine And.intro ?_ ?_)); done) ?_
 rintro i p1
 conv => whnf
 repeat' (first | (refine br_intro ?_ ?_ <;> intro hb <;> (try simp only [brs] at hb) <;> conv => whnf) | omega | (refine And.intro ?_ ?_; ((try dsimp only); first | omega | (refine szA rfl ?_; omega) | (refine szB rfl ?_; omega) | (unfold inI64; omega) | exact rfl | (simp only [lns] at *; omega) | decide | (unfold inI64; decide)); conv => whnf) | decide | assumption)
 refine .ret _ ?_
 conv => whnf
 exact ⟨[(1000002, erC), (1000003, erF E)], ⟨rfl, rfl⟩, rr, rr, trivial⟩
theorem z244n (t : Int) : FSpec Tryz.prog 244 [.d .nilsl, .fn 245 [.ptr 1000002 0]] [(1000002, icC t)] (fun x r => x = .d .nilsl ∧ r = [(1000002, icC t)]) := by
 refine spec_of hT (C := []) Tryz.func244 rfl Tryz.call244 rfl rfl rfl ?_
 conv => whnf
 refine CallX.of (z161n t) [(1000002, 1000002)] rfl ⟨lr, lr, trivial⟩ ⟨rr, trivial⟩ rfl rfl ?_
 rintro x rout ⟨rfl, rfl⟩
 refine ⟨rfl, ?_⟩
 conv => whnf
 repeat' (first | (refine br_intro ?_ ?_ <;> intro hb <;> (try simp only [brs] at hb) <;> conv => whnf) | omega | (refine And.intro ?_ ?_; ((try dsimp only); first | omega | (refine szA rfl ?_; omega) | (refine szB rfl ?_; omega) | (unfold inI64; omega) | exact rfl | (simp only [lns] at *; omega) | decide | (unfold inI64; decide)); conv => whnf) | decide | assumption)
 refine .ret _ ?_
 conv => whnf
 exact ⟨[(1000002, icC t)], ⟨rfl, rfl⟩, rr, trivial⟩
theorem z244m : FSpec Tryz.prog 244 [.d .nilsl, .fn 246 [.ptr 1000002 0]] [(1000002, earN)] (fun x r => x = .d .nilsl ∧ r = [(1000002, earN)]) := by
 refine spec_of hT (C := []) Tryz.func244 rfl Tryz.call244 rfl rfl rfl ?_
 conv => whnf
 refine CallX.of z161m [(1000002, 1000002)] rfl ⟨lr, lr, trivial⟩ ⟨rr, trivial⟩ rfl rfl ?_
 rintro x rout ⟨rfl, rfl⟩
 refine ⟨rfl, ?_⟩
 conv => whnf
 repeat' (first | (refine br_intro ?_ ?_ <;> intro hb <;> (try simp only [brs] at hb) <;> conv => whnf) | omega | (refine And.intro ?_ ?_; ((try dsimp only); first | omega | (refine szA rfl ?_; omega) | (refine szB rfl ?_; omega) | (unfold inI64; omega) | exact rfl | (simp only [lns] at *; omega) | decide | (unfold inI64; decide)); conv => whnf) | decide | assumption)
 refine .ret _ ?_
 conv => whnf
 exact ⟨[(1000002, earN)], ⟨rfl, rfl⟩, rr, trivial⟩
theorem z244w (E : List Plt) : FSpec Tryz.prog 244 [.d .nilsl, .fn 246 [.ptr 1000002 0]] [(1000002, erC), (1000003, erF E)] (fun x r => x = .d .nilsl ∧ r = [(1000002, erC), (1000003, erF E)]) := by
 refine spec_of hT (C := []) Tryz.func244 rfl Tryz.call244 rfl rfl rfl ?_
 conv => whnf
 refine CallX.of (z161w E) [(1000002, 1000002), (1000003, 1000003)] rfl ⟨lr, lr, trivial⟩ ⟨rr, rr, trivial⟩ rfl rfl ?_
 rintro x rout ⟨rfl, rfl⟩
 refine ⟨rfl, ?_⟩
 conv => whnf
 repeat' (first | (refine br_intro ?_ ?_ <;> intro hb <;> (try simp only [brs] at hb) <;> conv => whnf) | omega | (refine And.intro ?_ ?_; ((try dsimp only); first | omega | (refine szA rfl ?_; omega) | (refine szB rfl ?_; omega) | (unfold inI64; omega) | exact rfl | (simp only [lns] at *; omega) | decide | (unfold inI64; decide)); conv => whnf) | decide | assumption)
 refine .ret _ ?_
 conv => whnf
 exact ⟨[(1000002, erC), (1000003, erF E)], ⟨rfl, rfl⟩, rr, rr, trivial⟩
theorem early_245 (l : List Plt) (t : Int) : (l.filter fun x => !c245 t x) = early l t := by
 unfold early c245
 congr 1
 funext p
 by_cases h : p.frm ≤ t
 · rw [decide_eq_true h, decide_eq_false (by omega)]; rfl
 · rw [decide_eq_false h, decide_eq_true (by omega)]; rfl
theorem worn_246 (l : List Plt) (t : Int) : ((early l t).filter fun x => !c246 (early l t) x) = worn l t := by
 unfold worn c246
 congr 1
 funext p
 congr 1
 congr 1
 funext o
 unfold twL clashP
 grind
theorem worn_len (l : List Plt) (t : Int) : (worn l t).length ≤ l.length := by
 unfold worn early
 exact Nat.le_trans (List.length_filter_le _ _) (List.length_filter_le _ _)
set_option maxHeartbeats 2000000 in
theorem z179 (f : Flt) (hl : f.plt.length ≤ 1000) (t : Int) : FSpec Tryz.prog 179 [flt f, .d (.int .i64 t)] [] (fun y r => y = .d (plts (worn f.plt t)) ∧ r = []) := by
 have hE : (early f.plt t).length ≤ 1000 := by unfold early; exact Nat.le_trans (List.length_filter_le _ _) hl
 refine spec_of hT (C := []) Tryz.func179 rfl Tryz.call179 rfl rfl rfl ?_
 conv => whnf
 repeat' (first | (refine br_intro ?_ ?_ <;> intro hb <;> (try simp only [brs] at hb) <;> conv => whnf) | omega | (refine And.intro ?_ ?_; ((try dsimp only); first | omega | (refine szA rfl ?_; omega) | (refine szB rfl ?_; omega) | (unfold inI64; omega) | exact rfl | (simp only [lns] at *; omega) | decide | (unfold inI64; decide)); conv => whnf) | decide | assumption)
 refine CallX.of (z137r f.plt (by omega)) [(7, 43)] rfl ⟨lr, trivial⟩ trivial rfl rfl ?_
 rintro x rout (⟨rfl, h0, rfl⟩ | ⟨rfl, rfl⟩)
 · refine ⟨rfl, ?_⟩
   conv => whnf
   repeat' (first | (refine CallX.of (z244n t) [(1000002, 3)] rfl ⟨lr, lr, trivial⟩ ⟨rr, trivial⟩ rfl rfl ?_; rintro x rout ⟨rfl, rfl⟩; refine ⟨rfl, ?_⟩; conv => whnf) | (refine CallX.exact (z137n) rfl rfl ?_; rotate_right; conv => whnf) | (refine CallX.of z244m [(1000002, 5)] rfl ⟨lr, lr, trivial⟩ ⟨rr, trivial⟩ rfl rfl ?_; rintro x rout ⟨rfl, rfl⟩; refine ⟨rfl, ?_⟩; conv => whnf) | (refine br_intro ?_ ?_ <;> intro hb <;> (try simp only [brs] at hb) <;> conv => whnf) | omega | (refine And.intro ?_ ?_; ((try dsimp only); first | omega | (refine szA rfl ?_; omega) | (refine szB rfl ?_; omega) | (unfold inI64; omega) | exact rfl | (simp only [lns] at *; omega) | decide | (unfold inI64; decide)); conv => whnf) | decide | assumption)
   refine .weak _ ?_
   conv => whnf
   refine ⟨.d (plts (worn f.plt t)), [], ?_, ⟨rfl, rfl⟩, trivial⟩
   have : worn f.plt t = [] := by unfold worn early; rw [h0]; rfl
   rw [this]
   exact SV.le_nilS
 · refine ⟨rfl, ?_⟩
   conv => whnf
   repeat' (first | (refine br_intro ?_ ?_ <;> intro hb <;> (try simp only [brs] at hb) <;> conv => whnf) | omega | (refine And.intro ?_ ?_; ((try dsimp only); first | omega | (refine szA rfl ?_; omega) | (refine szB rfl ?_; omega) | (unfold inI64; omega) | exact rfl | (simp only [lns] at *; omega) | decide | (unfold inI64; decide)); conv => whnf) | decide | assumption)
   have hA := z244a f.plt hl t
   rw [early_245] at hA
   refine CallX.of hA [(1000001, 43), (41, 51), (1000002, 3)] rfl ⟨lr, lr, trivial⟩ ⟨rr, rr, trivial⟩ rfl rfl ?_
   rintro x rout ⟨d, rfl | rfl, rfl, rfl⟩
   · refine ⟨rfl, ?_⟩
     conv => whnf
     repeat' (first | (refine br_intro ?_ ?_ <;> intro hb <;> (try simp only [brs] at hb) <;> conv => whnf) | omega | (refine And.intro ?_ ?_; ((try dsimp only); first | omega | (refine szA rfl ?_; omega) | (refine szB rfl ?_; omega) | (unfold inI64; omega) | exact rfl | (simp only [lns] at *; omega) | decide | (unfold inI64; decide)); conv => whnf) | decide | assumption)
     refine CallX.of (z137 (early f.plt t) (by omega)) [(1000001, 43), (7, 47)] rfl ⟨lr, trivial⟩ ⟨rr, trivial⟩ rfl rfl ?_
     rintro x rout (⟨rfl, h0, rfl⟩ | ⟨rfl, rfl⟩)
     · refine ⟨rfl, ?_⟩
       conv => whnf
       repeat' (first | (refine br_intro ?_ ?_ <;> intro hb <;> (try simp only [brs] at hb) <;> conv => whnf) | omega | (refine And.intro ?_ ?_; ((try dsimp only); first | omega | (refine szA rfl ?_; omega) | (refine szB rfl ?_; omega) | (unfold inI64; omega) | exact rfl | (simp only [lns] at *; omega) | decide | (unfold inI64; decide)); conv => whnf) | decide | assumption)
       refine CallX.freeze _ _ _ _ 43 126 3 _ _ rfl rfl ?_
       refine CallX.of (z244w (early f.plt t)) [(1000002, 5), (1000003, 43)] rfl ⟨lr, lr, trivial⟩ ⟨rr, rr, trivial⟩ rfl rfl ?_
       rintro x rout ⟨rfl, rfl⟩
       refine ⟨rfl, ?_⟩
       conv => whnf
       repeat' (first | (refine br_intro ?_ ?_ <;> intro hb <;> (try simp only [brs] at hb) <;> conv => whnf) | omega | (refine And.intro ?_ ?_; ((try dsimp only); first | omega | (refine szA rfl ?_; omega) | (refine szB rfl ?_; omega) | (unfold inI64; omega) | exact rfl | (simp only [lns] at *; omega) | decide | (unfold inI64; decide)); conv => whnf) | decide | assumption)
       refine .weak _ ?_
       conv => whnf
       refine ⟨.d (plts (worn f.plt t)), [], ?_, ⟨rfl, rfl⟩, trivial⟩
       have : worn f.plt t = [] := by unfold worn; rw [h0]; rfl
       rw [this]
       exact SV.le_nilS
     · refine ⟨rfl, ?_⟩
       conv => whnf
       repeat' (first | (refine br_intro ?_ ?_ <;> intro hb <;> (try simp only [brs] at hb) <;> conv => whnf) | omega | (refine And.intro ?_ ?_; ((try dsimp only); first | omega | (refine szA rfl ?_; omega) | (refine szB rfl ?_; omega) | (unfold inI64; omega) | exact rfl | (simp only [lns] at *; omega) | decide | (unfold inI64; decide)); conv => whnf) | decide | assumption)
       refine CallX.freeze _ _ _ _ 43 126 3 _ _ rfl rfl ?_
       have hB := z244b (early f.plt t) hE (early f.plt t) (by omega)
       rw [worn_246] at hB
       refine CallX.of hB [(1000001, 47), (41, 53), (1000002, 5), (1000003, 43)] rfl ⟨lr, lr, trivial⟩ ⟨rr, rr, rr, trivial⟩ rfl rfl ?_
       rintro x rout ⟨d, rfl | rfl, rfl, rfl⟩
       · refine ⟨rfl, ?_⟩
         conv => whnf
         repeat' (first | (refine br_intro ?_ ?_ <;> intro hb <;> (try simp only [brs] at hb) <;> conv => whnf) | omega | (refine And.intro ?_ ?_; ((try dsimp only); first | omega | (refine szA rfl ?_; omega) | (refine szB rfl ?_; omega) | (unfold inI64; omega) | exact rfl | (simp only [lns] at *; omega) | decide | (unfold inI64; decide)); conv => whnf) | decide | assumption)
         refine .freeze _ 47 126 3 _ _ rfl (.weak _ ?_)
         conv => whnf
         exact ⟨.d (plts (worn f.plt t)), [], lr, ⟨rfl, rfl⟩, trivial⟩
       · refine ⟨rfl, ?_⟩
         conv => whnf
         repeat' (first | (refine br_intro ?_ ?_ <;> intro hb <;> (try simp only [brs] at hb) <;> conv => whnf) | omega | (refine And.intro ?_ ?_; ((try dsimp only); first | omega | (refine szA rfl ?_; omega) | (refine szB rfl ?_; omega) | (unfold inI64; omega) | exact rfl | (simp only [lns] at *; omega) | decide | (unfold inI64; decide)); conv => whnf) | decide | assumption)
         refine .freeze _ 53 126 3 _ _ rfl (.weak _ ?_)
         conv => whnf
         exact ⟨.d (plts (worn f.plt t)), [], lr, ⟨rfl, rfl⟩, trivial⟩
   · refine ⟨rfl, ?_⟩
     conv => whnf
     repeat' (first | (refine br_intro ?_ ?_ <;> intro hb <;> (try simp only [brs] at hb) <;> conv => whnf) | omega | (refine And.intro ?_ ?_; ((try dsimp only); first | omega | (refine szA rfl ?_; omega) | (refine szB rfl ?_; omega) | (unfold inI64; omega) | exact rfl | (simp only [lns] at *; omega) | decide | (unfold inI64; decide)); conv => whnf) | decide | assumption)
     refine CallX.of (z137 (early f.plt t) (by omega)) [(1000001, 51), (7, 47)] rfl ⟨lr, trivial⟩ ⟨rr, trivial⟩ rfl rfl ?_
     rintro x rout (⟨rfl, h0, rfl⟩ | ⟨rfl, rfl⟩)
     · refine ⟨rfl, ?_⟩
       conv => whnf
       repeat' (first | (refine br_intro ?_ ?_ <;> intro hb <;> (try simp only [brs] at hb) <;> conv => whnf) | omega | (refine And.intro ?_ ?_; ((try dsimp only); first | omega | (refine szA rfl ?_; omega) | (refine szB rfl ?_; omega) | (unfold inI64; omega) | exact rfl | (simp only [lns] at *; omega) | decide | (unfold inI64; decide)); conv => whnf) | decide | assumption)
       refine CallX.freeze _ _ _ _ 51 126 3 _ _ rfl rfl ?_
       refine CallX.of (z244w (early f.plt t)) [(1000002, 5), (1000003, 51)] rfl ⟨lr, lr, trivial⟩ ⟨rr, rr, trivial⟩ rfl rfl ?_
       rintro x rout ⟨rfl, rfl⟩
       refine ⟨rfl, ?_⟩
       conv => whnf
       repeat' (first | (refine br_intro ?_ ?_ <;> intro hb <;> (try simp only [brs] at hb) <;> conv => whnf) | omega | (refine And.intro ?_ ?_; ((try dsimp only); first | omega | (refine szA rfl ?_; omega) | (refine szB rfl ?_; omega) | (unfold inI64; omega) | exact rfl | (simp only [lns] at *; omega) | decide | (unfold inI64; decide)); conv => whnf) | decide | assumption)
       refine .weak _ ?_
       conv => whnf
       refine ⟨.d (plts (worn f.plt t)), [], ?_, ⟨rfl, rfl⟩, trivial⟩
       have : worn f.plt t = [] := by unfold worn; rw [h0]; rfl
       rw [this]
       exact SV.le_nilS
     · refine ⟨rfl, ?_⟩
       conv => whnf
       repeat' (first | (refine br_intro ?_ ?_ <;> intro hb <;> (try simp only [brs] at hb) <;> conv => whnf) | omega | (refine And.intro ?_ ?_; ((try dsimp only); first | omega | (refine szA rfl ?_; omega) | (refine szB rfl ?_; omega) | (unfold inI64; omega) | exact rfl | (simp only [lns] at *; omega) | decide | (unfold inI64; decide)); conv => whnf) | decide | assumption)
       refine CallX.freeze _ _ _ _ 51 126 3 _ _ rfl rfl ?_
       have hB := z244b (early f.plt t) hE (early f.plt t) (by omega)
       rw [worn_246] at hB
       refine CallX.of hB [(1000001, 47), (41, 53), (1000002, 5), (1000003, 51)] rfl ⟨lr, lr, trivial⟩ ⟨rr, rr, rr, trivial⟩ rfl rfl ?_
       rintro x rout ⟨d, rfl | rfl, rfl, rfl⟩
       · refine ⟨rfl, ?_⟩
         conv => whnf
         repeat' (first | (refine br_intro ?_ ?_ <;> intro hb <;> (try simp only [brs] at hb) <;> conv => whnf) | omega | (refine And.intro ?_ ?_; ((try dsimp only); first | omega | (refine szA rfl ?_; omega) | (refine szB rfl ?_; omega) | (unfold inI64; omega) | exact rfl | (simp only [lns] at *; omega) | decide | (unfold inI64; decide)); conv => whnf) | decide | assumption)
         refine .freeze _ 47 126 3 _ _ rfl (.weak _ ?_)
         conv => whnf
         exact ⟨.d (plts (worn f.plt t)), [], lr, ⟨rfl, rfl⟩, trivial⟩
       · refine ⟨rfl, ?_⟩
         conv => whnf
         repeat' (first | (refine br_intro ?_ ?_ <;> intro hb <;> (try simp only [brs] at hb) <;> conv => whnf) | omega | (refine And.intro ?_ ?_; ((try dsimp only); first | omega | (refine szA rfl ?_; omega) | (refine szB rfl ?_; omega) | (unfold inI64; omega) | exact rfl | (simp only [lns] at *; omega) | decide | (unfold inI64; decide)); conv => whnf) | decide | assumption)
         refine .freeze _ 53 126 3 _ _ rfl (.weak _ ?_)
         conv => whnf
         exact ⟨.d (plts (worn f.plt t)), [], lr, ⟨rfl, rfl⟩, trivial⟩
theorem wear_hit {l : List Plt} {p : List UInt8} {t : Int} {i : Nat} (hi : i < (worn l t).length) (h : ∀ j, j < i → decide (((worn l t).getD j plt0).plt = p) = false) (q : ((worn l t).getD i plt0).plt = p) : findP (worn l t) p = some ((worn l t).getD i plt0) :=
 by unfold findP; exact find_hit (d := plt0) (p := fun e : Plt => decide (e.plt = p)) hi h (by simpa using q)
theorem wear_no {l : List Plt} {p : List UInt8} {t : Int} (h : ∀ j, j < (worn l t).length → decide (((worn l t).getD j plt0).plt = p) = false) : findP (worn l t) p = none :=
 by unfold findP; exact find_none (d := plt0) (p := fun e : Plt => decide (e.plt = p)) h
theorem z121 (f : Flt) (hl : f.plt.length ≤ 1000) (p : List UInt8) (t : Int) : FSpec Tryz.prog 121 [flt f, .d (.str p), .d (.int .i64 t)] [] (fun y r => y = .tup [.d (.str (wearV f.plt p t)), .d (.bool (findP (worn f.plt t) p).isSome)] ∧ r = []) := by
 have hw := worn_len f.plt t
 refine spec_of hT (C := []) Tryz.func121 rfl Tryz.call121 rfl rfl rfl ?_
 conv => whnf
 repeat' (first | (refine CallX.exact (z179 f hl t) rfl rfl ?_; rotate_right; conv => whnf) | (refine br_intro ?_ ?_ <;> intro hb <;> (try simp only [brs] at hb) <;> conv => whnf) | omega | (refine And.intro ?_ ?_; ((try dsimp only); first | omega | (refine szA rfl ?_; omega) | (refine szB rfl ?_; omega) | (unfold inI64; omega) | exact rfl | (simp only [lns] at *; omega) | decide | (unfold inI64; decide)); conv => whnf) | decide | assumption)
 refine LoopX.rule hT (C := []) (ι := Nat) (fun i => i ≤ (worn f.plt t).length ∧ ∀ j, j < i → decide (((worn f.plt t).getD j plt0).plt = p) = false) (fun i => mkSt [(1, .d (.str p)), (12, .d (plts (worn f.plt t))), (13, .d (.int .i64 (worn f.plt t).length)), (14, .d (.int .i64 i))] []) (fun i => (worn f.plt t).length - i) 0 ⟨by omega, by omega⟩ (by (refine Entails.mk' [] rfl rfl ?_ ?_ <;> repeat' (first | exact True.intro | exact lr | exact rr | exact SV.le_int (by omega) | exact SV.le_any _ | refine And.intro ?_ ?_)); done) ?_
 rintro i ⟨p1, p2⟩
 have e1 : (i : Int).toNat = i := Int.toNat_natCast i
 conv => whnf
 repeat' (first | (refine br_intro ?_ ?_ <;> intro hb <;> (try simp only [brs] at hb) <;> conv => whnf) | omega | (refine And.intro ?_ ?_; ((try dsimp only); first | omega | (refine szA rfl ?_; omega) | (refine szB rfl ?_; omega) | (unfold inI64; omega) | exact rfl | (simp only [lns] at *; omega) | decide | (unfold inI64; decide)); conv => whnf) | decide | assumption)
 · have hf := wear_hit (by omega) p2 hb
   refine .ret _ ?_
   conv => whnf
   refine ⟨[], ⟨congrArg SV.tup ?_, rfl⟩, trivial⟩
   repeat' (refine cons_eq ?_ ?_)
   all_goals (conv => lhs; whnf)
   all_goals try (with_reducible rfl)
   · unfold wearV; rw [hf, e1]; rfl
   · rw [hf]; rfl
 · exact ⟨i + 1, ⟨by omega, all_step p2 (by simpa using hb)⟩, by omega, (by (refine Entails.mk' [] rfl rfl ?_ ?_ <;> repeat' (first | exact True.intro | exact lr | exact rr | exact SV.le_int (by omega) | exact SV.le_any _ | refine And.intro ?_ ?_)); done)⟩
 · have : i = (worn f.plt t).length := by omega
   subst this
   have hf := wear_no p2
   refine .ret _ ?_
   conv => whnf
   refine ⟨[], ⟨congrArg SV.tup ?_, rfl⟩, trivial⟩
   repeat' (refine cons_eq ?_ ?_)
   all_goals (conv => lhs; whnf)
   all_goals try (with_reducible rfl)
   · unfold wearV; rw [hf]; rfl
   · rw [hf]; rfl
theorem z46 (f : Flt) (hl : f.plt.length ≤ 1000) (h : List Hir) (hh : h.length ≤ 2^40) (hs : ∀ x ∈ h, lgSeq x.legs) (hk : ∀ x ∈ h, x.legs.length ≤ 2^40) (p : List UInt8) (t : Int) :
 FSpec Tryz.prog 46 [flt f, .d (hirs h), .d (.str p), .d (.int .i64 t)] [] (fun y r => y = .tup [.d (.str (wearV f.plt p t)), .d (.str (ownR f.plt h p t))] ∧ r = []) := by
 refine spec_of hT (C := []) Tryz.func46 rfl Tryz.call46 rfl rfl rfl ?_
 conv => whnf
 repeat' (first | (refine CallX.exact (z121 f hl p t) rfl rfl ?_; rotate_right; conv => whnf) | (refine CallX.exact (z103 h hh hs hk (wearV f.plt p t) t) rfl rfl ?_; rotate_right; conv => whnf) | (refine br_intro ?_ ?_ <;> intro hb <;> (try simp only [brs] at hb) <;> conv => whnf) | omega | (refine And.intro ?_ ?_; ((try dsimp only); first | omega | (refine szA rfl ?_; omega) | (refine szB rfl ?_; omega) | (unfold inI64; omega) | exact rfl | (simp only [lns] at *; omega) | decide | (unfold inI64; decide)); conv => whnf) | decide | assumption)
 · refine .ret _ ?_
   conv => whnf
   refine ⟨[], ⟨congrArg SV.tup ?_, rfl⟩, trivial⟩
   repeat' (refine cons_eq ?_ ?_)
   all_goals (conv => lhs; whnf)
   all_goals try (with_reducible rfl)
   · rw [hb]
   · unfold ownR; rw [if_pos hb]
 · refine .ret _ ?_
   conv => whnf
   refine ⟨[], ⟨congrArg SV.tup ?_, rfl⟩, trivial⟩
   repeat' (refine cons_eq ?_ ?_)
   all_goals (conv => lhs; whnf)
   all_goals try (with_reducible rfl)
   unfold ownR; rw [if_neg hb]
theorem z91 (x : Hir) (key : List UInt8) : FSpec Tryz.prog 91 [.agg ((hiF x).map .d), .ptr 1000001 0] [(1000001, kyC key)] (fun y r => y = .d (.bool (x.key == key)) ∧ r = [(1000001, kyC key)]) := by
 refine spec_of hT (C := []) Tryz.func91 rfl Tryz.call91 rfl rfl rfl ?_
 conv => whnf
 refine .ret _ ?_
 conv => whnf
 exact ⟨[(1000001, kyC key)], ⟨rfl, rfl⟩, rr, trivial⟩
theorem z90k (l : List Hir) (hl : l.length ≤ 2^40) (key : List UInt8) : FSpec Tryz.prog 90 [.d (hirs l), .fn 91 [.ptr 1000001 0]] [(1000001, kyC key)] (fun x r => x = .d (.int .i64 (keyIx l key)) ∧ r = [(1000001, kyC key)]) := by
 refine spec_of hT (C := []) Tryz.func90 rfl Tryz.call90 rfl rfl rfl ?_
 conv => whnf
 refine LoopX.rule hT (C := []) (ι := Nat) (fun i => i ≤ l.length ∧ ∀ j, j < i → ((l.getD j hi0).key == key) = false) (fun i => mkSt [(0, .d (hirs l)), (1, .fn 91 [.ptr 1000001 0]), (7, .d (.int .i64 l.length)), (8, .d (.int .i64 i))] [(1000001, kyC key)]) (fun i => l.length - i) 0 ⟨by omega, by omega⟩ (by (refine Entails.mk' [(1000001, 1000001)] rfl rfl ?_ ?_ <;> repeat' (first | exact True.intro | exact lr | exact rr | exact SV.le_int (by omega) | exact SV.le_any _ | refine And.intro ?_ ?_)); done) ?_
 rintro i ⟨p1, p2⟩
 have e1 : (i : Int).toNat = i := Int.toNat_natCast i
 conv => whnf
 repeat' (first | (refine CallX.of (z91 (l.getD (i : Int).toNat hi0) key) [(1000001, 1000001)] rfl ⟨lr, lr, trivial⟩ ⟨rr, trivial⟩ rfl rfl ?_; rintro x rout ⟨rfl, rfl⟩; refine ⟨rfl, ?_⟩; conv => whnf) | (refine br_intro ?_ ?_ <;> intro hb <;> (try simp only [brs] at hb) <;> conv => whnf) | omega | (refine And.intro ?_ ?_; ((try dsimp only); first | omega | (refine szA rfl ?_; omega) | (refine szB rfl ?_; omega) | (unfold inI64; omega) | exact rfl | (simp only [lns] at *; omega) | decide | (unfold inI64; decide)); conv => whnf) | decide | assumption)
 · refine .ret _ ?_
   conv => whnf
   refine ⟨[(1000001, kyC key)], ⟨?_, rfl⟩, rr, trivial⟩
   conv => lhs; whnf
   congr 2
   exact (ixF_hit (by omega) p2 (by simpa using hb)).symm
 · exact ⟨i + 1, ⟨by omega, all_step p2 (by simpa using hb)⟩, by omega, (by (refine Entails.mk' [(1000001, 1000001)] rfl rfl ?_ ?_ <;> repeat' (first | exact True.intro | exact lr | exact rr | exact SV.le_int (by omega) | exact SV.le_any _ | refine And.intro ?_ ?_)); done)⟩
 · refine .ret _ ?_
   conv => whnf
   refine ⟨[(1000001, kyC key)], ⟨?_, rfl⟩, rr, trivial⟩
   conv => lhs; whnf
   congr 2
   have : i = l.length := by omega
   subst this
   exact (ixF_none p2).symm
theorem nmdL_snoc {p : List Plt} {h : List Hir} {r : Ntr} {l : List Ntc} {i : Nat} (hi : i < l.length) : nmdL p h r (l.take (i + 1)) = nmdL p h r (l.take i) ++ (nmdR p h r (l.getD i ntc0)).toList := by
 unfold nmdL
 rw [take_snocD (d := ntc0) hi, List.filterMap_append]
 rw [List.filterMap_cons]
 cases nmdR p h r (l.getD i ntc0) <;> rfl
theorem nmdL_len (p : List Plt) (h : List Hir) (r : Ntr) (l : List Ntc) : (nmdL p h r l).length ≤ l.length := List.length_filterMap_le _ _
set_option maxHeartbeats 4000000 in
theorem z23 (f : Flt) (E1 : fltE f = 0) (h : List Hir) (hh : h.length ≤ 2^40) (hs : ∀ x ∈ h, lgSeq x.legs) (hk : ∀ x ∈ h, x.legs.length ≤ 2^40) (E2 : hirsE h = 0) (r : Ntr) (Er : ntrE r = 0) (l : List Ntc) (E3 : ntcsE l = 0) :
 FSpec Tryz.prog 23 [flt f, .d (hirs h), .agg ((ntrF r).map .d), .d (ntcs l)] [] (fun y ro => y = (if 50 < (nmdL f.plt h r l).length then .tup [.d .nilsl, .d (.int .i64 2)] else .tup [.d (nmds (nmdL f.plt h r l)), .d (.int .i64 0)]) ∧ ro = []) := by
 have hpl := (fltE_srt E1).2
 obtain ⟨r1, _, _, _⟩ := ntr_zero Er
 have hcm : ∀ x ∈ l, 0 ≤ x.came ∧ x.came ≤ 5761439 := fun x hx => by
  obtain ⟨j, hj, rfl⟩ := mem_getD (d := ntc0) hx
  unfold ntcsE at E3
  split at E3
  · cases E3
  · have := firstAt_all E3 j hj
    unfold ntcE at this
    grind
 have hl200 : l.length ≤ 200 := by
  unfold ntcsE at E3
  split at E3
  · cases E3
  · omega
 have htm := ntcs_tm E3
 refine spec_of hT (C := []) Tryz.func23 rfl Tryz.call23 rfl rfl rfl ?_
 conv => whnf
 repeat' (first | (refine br_intro ?_ ?_ <;> intro hb <;> (try simp only [brs] at hb) <;> conv => whnf) | omega | (refine And.intro ?_ ?_; ((try dsimp only); first | omega | (refine szA rfl ?_; omega) | (refine szB rfl ?_; omega) | (unfold inI64; omega) | exact rfl | (simp only [lns] at *; omega) | decide | (unfold inI64; decide)); conv => whnf) | decide | assumption)
 refine LoopX.rule hT (C := []) (ι := Nat) (fun i => i ≤ l.length) (fun i => mkSt [(1, .d (hirs h)), (4, .ptr 4 0), (6, .ptr 6 0), (10, .buf 10), (16, .d (ntcs l)), (17, .d (.int .i64 l.length)), (18, .d (.int .i64 i))] [(4, fltC f), (6, .cells 37 ((ntrF r).map .d)), (10, seqB 52 4 nmF nm0 (nmdL f.plt h r (l.take i)))]) (fun i => l.length - i) 0 (by omega) ?_ ?_
 · refine (Entails.nil 10 10 52 4 (rowF nmF nm0 []) rfl rfl (by decide)).trans (Entails.mk' [(4, 4), (6, 6), (10, 10)] rfl rfl ⟨lr, lr, lr, lr, lr, lr, lr, trivial⟩ ⟨rr, rr, rr, trivial⟩)
 intro i p1
 have e1 : (i : Int).toNat = i := Int.toNat_natCast i
 have hnl : ∀ i, (nmdL f.plt h r (l.take i)).length ≤ 200 := fun i => Nat.le_trans (nmdL_len _ _ _ _) (by rw [List.length_take]; omega)
 have hnl1 := hnl i
 rcases Nat.lt_or_ge i l.length with hi | hi
 · have hc2 := hcm (l.getD (i : Int).toNat ntc0) (getD_mem (by omega))
   have hsn := nmdL_snoc (p := f.plt) (h := h) (r := r) hi
   have hq : (l.getD (i : Int).toNat ntc0).came.tdiv 1440 = (l.getD (i : Int).toNat ntc0).came / 1440 := Int.tdiv_eq_ediv_of_nonneg hc2.1
   have hown := own_key E1 E2 (htm _ (getD_mem (x := ntc0) hi)) (l.getD i ntc0).plate
   have hbd := ownK_bd ((hend f.plt).out (l.getD i ntc0).plate) h (l.getD i ntc0).tm
   rw [← e1] at hown hbd
   have hix : ownR f.plt h (l.getD (i : Int).toNat ntc0).plate (l.getD (i : Int).toNat ntc0).tm ≠ [] → 0 ≤ keyIx h (ownR f.plt h (l.getD (i : Int).toNat ntc0).plate (l.getD (i : Int).toNat ntc0).tm) ∧ keyIx h (ownR f.plt h (l.getD (i : Int).toNat ntc0).plate (l.getD (i : Int).toNat ntc0).tm) < h.length := fun q => by
    rcases hown with ⟨_, q2⟩ | ⟨q1, _, _, q4⟩
    · exact absurd q2 q
    · rw [q4]; exact ⟨q1, hbd.2⟩
   clear hown hbd
   conv => whnf
   repeat' (first | (refine CallX.exact (z46 f hpl h hh hs hk (l.getD (i : Int).toNat ntc0).plate (l.getD (i : Int).toNat ntc0).tm) rfl rfl ?_; rotate_right; conv => whnf) | (refine CallX.of (z90k h hh (ownR f.plt h (l.getD (i : Int).toNat ntc0).plate (l.getD (i : Int).toNat ntc0).tm)) [(1000001, 14)] rfl ⟨lr, lr, trivial⟩ ⟨rr, trivial⟩ rfl rfl ?_; rintro x rout ⟨rfl, rfl⟩; refine ⟨rfl, ?_⟩; conv => whnf) | (refine And.intro (hix (by rw [e1]; exact hb)) ?_; conv => whnf) | (refine And.intro (show inI64 _ from by rw [hq]; unfold inI64; simp only [cond_false]; omega) ?_; conv => whnf) | (refine br_intro ?_ ?_ <;> intro hb <;> (try simp only [brs] at hb) <;> conv => whnf) | omega | (refine And.intro ?_ ?_; ((try dsimp only); first | omega | (refine szA rfl ?_; omega) | (refine szB rfl ?_; omega) | (unfold inI64; omega) | exact rfl | (simp only [lns] at *; omega) | decide | (unfold inI64; decide)); conv => whnf) | decide | assumption)
   all_goals try (exfalso; omega)
   · have hN : nmdL f.plt h r (l.take (i + 1)) = nmdL f.plt h r (l.take i) := by
      rw [hsn]; unfold nmdR; rw [if_pos hb]; simp
     exact ⟨i + 1, by omega, by omega, Entails.mk' [(4, 4), (6, 6), (10, 10)] rfl rfl ⟨lr, lr, lr, lr, lr, lr, lr, trivial⟩ ⟨rr, rr, by rw [hN]; exact rr, trivial⟩⟩
   · have hN : nmdL f.plt h r (l.take (i + 1)) = nmdL f.plt h r (l.take i) ++ [⟨(l.getD i ntc0).key, ownR f.plt h (l.getD i ntc0).plate (l.getD i ntc0).tm, (h.getD (keyIx h (ownR f.plt h (l.getD i ntc0).plate (l.getD i ntc0).tm)).toNat hi0).drv, min (((l.getD i ntc0).came.tdiv 1440 + r.name + 1) * 1440) 5761440 - 1⟩] := by
      rw [hsn]; unfold nmdR; rw [if_neg hb]; rfl
     refine ⟨i + 1, by omega, by omega, Entails.mk' [(4, 4), (6, 6), (10, 58)] rfl rfl ⟨lr, lr, lr, lr, lr, lr, lr, trivial⟩ ⟨rr, rr, ?_, trivial⟩⟩
     rw [hN]
     refine Res.le_snocF ?_
     simp only [e1, nmF]
     conv => lhs; whnf
     rfl
 have hil : i = l.length := by omega
 subst hil
 rw [List.take_length] at hnl1
 conv => whnf
 repeat' (first | (refine br_intro ?_ ?_ <;> intro hb <;> (try simp only [brs] at hb) <;> conv => whnf) | omega | (refine And.intro ?_ ?_; ((try dsimp only); first | omega | (refine szA rfl ?_; omega) | (refine szB rfl ?_; omega) | (unfold inI64; omega) | exact rfl | (simp only [lns] at *; omega) | decide | (unfold inI64; decide)); conv => whnf) | decide | assumption)
 all_goals try (exfalso; omega)
 · refine .ret _ ?_
   conv => whnf
   refine ⟨[], ⟨?_, rfl⟩, trivial⟩
   rw [List.take_length] at hb
   rw [if_pos (by omega)]
   rfl
 · rw [List.take_length] at hb
   refine .freeze _ 10 52 4 _ _ rfl (.weak _ ?_)
   conv => whnf
   refine ⟨.tup [.d (nmds (nmdL f.plt h r l)), .d (.int .i64 0)], [], SV.le_tup ⟨by rw [List.take_length]; exact lr, lr, trivial⟩, ⟨?_, rfl⟩, trivial⟩
   rw [if_neg (by omega)]
theorem s130 (D C F : Int) (l : List Pas) (hl : l.length ≤ 1000) (hp : ∀ p ∈ l, 0 ≤ p.tm ∧ p.tm ≤ 5761439) :
 FSpec Tryz.prog 127 [.agg [.d (.int .i64 D), .d (.int .i64 C), .d (.int .i64 F)], .d (pass l)] [] (fun x r => x = .d (seqD 1 bF false (fillA false (dblB D l) l.length l.length)) ∧ r = []) := by
 refine spec_of hT (C := []) Tryz.func127 rfl Tryz.call127 rfl rfl rfl ?_
 conv => whnf
 repeat' (first | (refine br_intro ?_ ?_ <;> intro hb <;> (try simp only [brs] at hb) <;> conv => whnf) | omega | (refine And.intro ?_ ?_; ((try dsimp only); first | omega | (refine szA rfl ?_; omega) | (refine szB rfl ?_; omega) | (unfold inI64; omega) | (simp only [lns] at *; omega) | decide | (unfold inI64; decide)); conv => whnf) | decide | assumption)
 refine LoopX.rule hT (C := []) (ι := Nat) (fun i => i ≤ l.length) (fun i => mkSt [(2, .ptr 2 0), (5, .mp 5), (6, .buf 6), (16, .d (pass l)), (17, .d (.int .i64 l.length)), (18, .d (.int .i64 i))] [(2, .cells 95 [.d (.int .i64 D), .d (.int .i64 C), .d (.int .i64 F)]), (5, seenR (dblM D l i)), (6, seqB 4 1 bF false (fillA false (dblB D l) l.length i))]) (fun i => l.length - i) 0 (by omega) ?_ ?_
 · refine Entails.mk' [(2, 2), (5, 12), (6, 15)] rfl rfl ⟨lr, lr, lr, lr, lr, lr, trivial⟩ ⟨rr, Res.le_map (fun key hk => ?_), Res.le_buf (by rw [fillA_length]; rfl) (fun j hj => ?_), trivial⟩
   · obtain ⟨a, b, rfl⟩ := wk_ss hk
     exact ⟨rfl, rfl⟩
   · have hj : j < l.length := hj
     rw [rowF_lt (by rw [fillA_length]; exact hj)]
     simp [fillA, bF]
     rfl
 rintro i p1
 have e1 : (i : Int).toNat = i := Int.toNat_natCast i
 have hpi : (i : Int) < l.length → 0 ≤ (l.getD (i : Int).toNat pa0).tm ∧ (l.getD (i : Int).toNat pa0).tm ≤ 5761439 := fun hi => hp _ (getD_mem (by omega))
 have hlen : (fillA false (dblB D l) l.length i).length = l.length := fillA_length
 have hm : ∀ q, 0 ≤ (dblM D l i q).getD 0 ∧ (dblM D l i q).getD 0 ≤ 5761439 := fun q => by
  cases hq : dblM D l i q with
  | none => simp
  | some t => simpa using dblM_bd hp i p1 q t hq
 have hm0 := hm ((l.getD (i : Int).toNat pa0).plate, (l.getD (i : Int).toNat pa0).gate)
 conv => whnf
 repeat' (first | (refine And.intro (rfl : zrow _ = some [DV.int .i64 0]) ?_; conv => whnf) | (simp only [Nat.beq_refl, cond_true]; conv => whnf) | (refine br_intro ?_ ?_ <;> intro hb <;> (try simp only [brs] at hb) <;> conv => whnf) | omega | (refine And.intro ?_ ?_; ((try dsimp only); first | omega | (refine szA rfl ?_; omega) | (refine szB rfl ?_; omega) | (unfold inI64; omega) | (simp only [lns] at *; omega) | decide | (unfold inI64; decide)); conv => whnf) | decide | assumption)
 · rename_i hb1
   have hB : dblB D l i = false := by rw [dblB_eq, decide_eq_false (by omega), Bool.and_false]
   have hM : ∀ a b, dblM D l (i + 1) (a, b) = if a = (l.getD i pa0).plate ∧ b = (l.getD i pa0).gate then some (l.getD i pa0).tm else dblM D l i (a, b) := fun a b => by
    rw [dblM, if_neg (by show ¬ dblB D l i = true; rw [hB]; simp)]
    simp [Prod.ext_iff]
   refine ⟨i + 1, by omega, by omega, Entails.mk' [(2, 2), (5, 5), (6, 6)] rfl rfl ⟨lr, lr, lr, lr, lr, lr, trivial⟩ ⟨rr, Res.le_map (fun key hk => ?_), ?_, trivial⟩⟩
   · obtain ⟨a, b, rfl⟩ := wk_ss hk
     rw [e1]
     simp only [keyEq, keyEq1, Bool.and_true, mHas, mVal, hM]
     by_cases hab : a = (l.getD i pa0).plate ∧ b = (l.getD i pa0).gate
     · rw [if_pos hab, hab.1, hab.2]; simp
     · rw [if_neg hab]
       have : (a == (l.getD i pa0).plate && b == (l.getD i pa0).gate) = false := by
        cases hq : (a == (l.getD i pa0).plate && b == (l.getD i pa0).gate) with
        | false => rfl
        | true => simp at hq; exact absurd hq hab
       rw [this]; simp
   · rw [← fillA_set' (x := false) hB.symm]
     first
      | exact Res.le_putF (fun y _ => rfl)
      | (refine Res.le_putF (x := false) (fun y _ => ?_)
         show [DV.bool _] = [DV.bool _]
         rw [e1]; simpa using hb)
 · rename_i hb1
   have hB : dblB D l i = true := by rw [dblB_eq, decide_eq_true hb, Bool.and_true]; exact hb1
   refine ⟨i + 1, by omega, by omega, Entails.mk' [(2, 2), (5, 5), (6, 6)] rfl rfl ⟨lr, lr, lr, lr, lr, lr, trivial⟩ ⟨rr, ?_, ?_, trivial⟩⟩
   · have : dblM D l (i + 1) = dblM D l i := by rw [dblM]; exact if_pos hB
     rw [this]; exact rr
   · rw [← fillA_set' (x := decide ((l.getD (i : Int).toNat pa0).tm - (dblM D l i ((l.getD (i : Int).toNat pa0).plate, (l.getD (i : Int).toNat pa0).gate)).getD 0 < D)) (by rw [hB, e1]; simpa using hb)]
     exact Res.le_putF (fun y _ => rfl)
 · have hB : dblB D l i = false := by
    rw [dblB_eq, Bool.and_eq_false_iff]; exact .inl hb
   have hM : ∀ a b, dblM D l (i + 1) (a, b) = if a = (l.getD i pa0).plate ∧ b = (l.getD i pa0).gate then some (l.getD i pa0).tm else dblM D l i (a, b) := fun a b => by
    rw [dblM, if_neg (by show ¬ dblB D l i = true; rw [hB]; simp)]
    simp [Prod.ext_iff]
   refine ⟨i + 1, by omega, by omega, Entails.mk' [(2, 2), (5, 5), (6, 6)] rfl rfl ⟨lr, lr, lr, lr, lr, lr, trivial⟩ ⟨rr, Res.le_map (fun key hk => ?_), ?_, trivial⟩⟩
   · obtain ⟨a, b, rfl⟩ := wk_ss hk
     rw [e1]
     simp only [keyEq, keyEq1, Bool.and_true, mHas, mVal, hM]
     by_cases hab : a = (l.getD i pa0).plate ∧ b = (l.getD i pa0).gate
     · rw [if_pos hab, hab.1, hab.2]; simp
     · rw [if_neg hab]
       have : (a == (l.getD i pa0).plate && b == (l.getD i pa0).gate) = false := by
        cases hq : (a == (l.getD i pa0).plate && b == (l.getD i pa0).gate) with
        | false => rfl
        | true => simp at hq; exact absurd hq hab
       rw [this]; simp
   · rw [← fillA_set' (x := false) hB.symm]
     first
      | exact Res.le_putF (fun y _ => rfl)
      | (refine Res.le_putF (x := false) (fun y _ => ?_)
         show [DV.bool _] = [DV.bool _]
         rw [e1]; simpa using hb)
 · refine .freeze _ 6 4 1 _ _ rfl ?_
   have : i = l.length := by omega
   subst this
   refine .ret _ ?_
   conv => whnf
   refine ⟨[], ⟨?_, rfl⟩, trivial⟩
   conv => lhs; whnf
theorem s65 (g : List Gate) (D C F : Int) (l : List Pas) (hg : gOk g) (hl : pOk l) :
 FSpec Tryz.prog 59 [.d (gates g), .agg [.d (.int .i64 D), .d (.int .i64 C), .d (.int .i64 F)], .d (pass l)] [] (fun x r => x = .tup [.d (if dblsE D C F g l = 0 then ints (dblIx D l l.length) else .nilsl), .d (.int .i64 (dblsE D C F g l))] ∧ r = []) := by
 refine spec_of hT (C := []) Tryz.func59 rfl Tryz.call59 rfl rfl rfl ?_
 conv => whnf
 repeat' (first | (refine CallX.exact (s66 _ _ _) rfl rfl ?_; rotate_right; conv => whnf) | (refine CallX.exact (s90 g l hg hl) rfl rfl ?_; rotate_right; conv => whnf) | (refine CallX.pure (s105 [_, _] (by simp)) ⟨SV.le_lit (by rfl) (by rfl), trivial⟩ rfl ?_; conv => whnf) | (refine br_intro ?_ ?_ <;> intro hb <;> (try simp only [brs] at hb) <;> conv => whnf) | omega | (refine And.intro ?_ ?_; ((try dsimp only); first | omega | (refine szA rfl ?_; omega) | (refine szB rfl ?_; omega) | (unfold inI64; omega) | (simp only [lns] at *; omega) | decide | (unfold inI64; decide)); conv => whnf) | decide | assumption)
 · have hb : ¬ dblsE D C F g l = 0 := hb
   refine .ret _ ?_
   conv => whnf
   refine ⟨[], ⟨congrArg SV.tup ?_, rfl⟩, trivial⟩
   repeat' (refine cons_eq ?_ ?_)
   all_goals (conv => lhs; whnf)
   all_goals try (with_reducible rfl)
   · rw [if_neg hb]
   · rfl
 have hb : dblsE D C F g l = 0 := hb
 rw [hb]
 have hz : chkE g l = 0 := by simp only [dblsE, firstE] at hb; grind
 obtain ⟨⟨n1, n2⟩, n3, n4⟩ := chk_zero hz
 repeat' (first | (refine CallX.exact (s130 _ _ _ l n3 n4) rfl rfl ?_; rotate_right; conv => whnf) | (refine br_intro ?_ ?_ <;> intro hb <;> (try simp only [brs] at hb) <;> conv => whnf) | omega | (refine And.intro ?_ ?_; ((try dsimp only); first | omega | (refine szA rfl ?_; omega) | (refine szB rfl ?_; omega) | (unfold inI64; omega) | (simp only [lns] at *; omega) | decide | (unfold inI64; decide)); conv => whnf) | decide | assumption)
 refine LoopX.rule hT (C := []) (ι := Nat) (fun i => i ≤ l.length) (fun i => mkSt [(9, .buf 9), (24, .d (seqD 1 bF false (fillA false (dblB D l) l.length l.length))), (25, .d (.int .i64 l.length)), (26, .d (.int .i64 i))] [(9, seqB 3 1 iF 0 (dblIx D l i))]) (fun i => l.length - i) 0 (by omega) ?_ ?_
 · exact (Entails.nil 9 9 3 1 (rowF iF 0 []) rfl rfl (by decide)).trans (by (refine Entails.mk' [(9, 9)] rfl rfl ?_ ?_ <;> repeat' (first | exact True.intro | exact lr | exact rr | (refine SV.le_int ?_; rw [fillA_length]) | exact SV.le_int (by omega) | exact SV.le_any _ | refine And.intro ?_ ?_)); done)
 rintro i p1
 have e1 : (i : Int).toNat = i := Int.toNat_natCast i
 have hlen : (fillA false (dblB D l) l.length l.length).length = l.length := fillA_length
 have hdl := dblIx_len (D := D) (l := l) (n := i)
 conv => whnf
 repeat' (first | (refine br_intro ?_ ?_ <;> intro hb <;> (try simp only [brs] at hb) <;> conv => whnf) | omega | (refine And.intro ?_ ?_; ((try dsimp only); first | omega | (refine szA rfl ?_; omega) | (refine szB rfl ?_; omega) | (unfold inI64; omega) | (simp only [lns] at *; omega) | decide | (unfold inI64; decide)); conv => whnf) | decide | assumption)
 · rw [fillA_get (by omega)] at hb
   refine ⟨i + 1, by omega, by omega, Entails.mk' [(9, 35)] rfl rfl ⟨lr, lr, lr, lr, trivial⟩ ⟨?_, trivial⟩⟩
   rw [dblIx_succ, if_pos hb]; exact Res.le_snocF (by rfl)
 · rw [fillA_get (by omega)] at hb
   refine ⟨i + 1, by omega, by omega, Entails.mk' [(9, 9)] rfl rfl ⟨lr, lr, lr, lr, trivial⟩ ⟨?_, trivial⟩⟩
   rw [dblIx_succ, if_neg (by rw [hb]; simp), List.append_nil]; exact rr
 · have : i = l.length := by omega
   subst this
   refine .freeze _ 9 3 1 _ _ rfl ?_
   refine .ret _ ?_
   conv => whnf
   refine ⟨[], ⟨congrArg SV.tup ?_, rfl⟩, trivial⟩
   repeat' (refine cons_eq ?_ ?_)
   all_goals (conv => lhs; whnf)
   all_goals try (with_reducible rfl)
   rw [if_pos rfl]
theorem s24 : FSpec Tryz.prog 30 [] [] (fun x r => x = .d (.bool true) ∧ r = []) := by
 have h := s65 tolG 5 0 0 tolP ⟨by decide, by decide⟩ ⟨by decide, by decide⟩
 rw [tol_zero, if_pos rfl, tol_ix] at h
 refine spec_of hT (C := []) Tryz.func30 rfl Tryz.call30 rfl rfl rfl ?_
 conv => whnf
 repeat' (first | (refine CallX.pure h ⟨SV.le_lit (l := tolG) rfl rfl, lr, SV.le_lit (l := tolP) rfl rfl, trivial⟩ rfl ?_; conv => whnf) | (refine CallX.pure (s37 [1] [1] (by simp) (by simp)) ⟨lr, SV.le_lit rfl rfl, trivial⟩ rfl ?_; conv => whnf) | (refine br_intro ?_ ?_ <;> intro hb <;> (try simp only [brs] at hb) <;> conv => whnf) | omega | (refine And.intro ?_ ?_; ((try dsimp only); first | omega | (refine szA rfl ?_; omega) | (refine szB rfl ?_; omega) | (unfold inI64; omega) | (simp only [lns] at *; omega) | decide | (unfold inI64; decide)); conv => whnf) | decide | assumption)
 all_goals
  refine .ret _ ?_
  conv => whnf
  refine ⟨[], ⟨?_, rfl⟩, trivial⟩
  conv => lhs; whnf
  simp
end Go.Proofs.YtcjfniddeibbhaaGreatDoor
