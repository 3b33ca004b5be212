/- ChargesHold is proved: for every input the law returns true, and its argument reads afterwards as it read before. Conditions: those of the given row alone. -/
import Derived.Test.YtcjfniddeibbhaaGreatDoorChConOne
import Derived.Test.YtcjfniddeibbhaaGreatDoorChEngTwo
set_option linter.unusedVariables false
set_option linter.unusedSimpArgs false
set_option maxRecDepth 20000
namespace Go.Proofs.YtcjfniddeibbhaaGreatDoor
open Go Go.Eng
def oTHiB203_0 : List (Nat × List Nat) := [(0, []), (1, []), (2, []), (3, []), (4, [0, 1, 2, 3]), (5, [0, 1, 2, 3]), (6, [0, 1, 2, 3]), (7, [0, 1, 2, 3]), (8, [0, 1, 2, 3]), (9, [0, 1, 2, 3]), (10, [0, 1, 2, 3, 4, 5, 6, 7, 8, 9]), (11, []), (12, []), (13, [])]
def oTHiB202_0 : List (Nat × List Nat) := [(0, []), (1, []), (2, []), (3, []), (4, [0, 1, 2, 3]), (5, [0, 1, 2, 3]), (6, [0, 1, 2, 3]), (7, [0, 1, 2, 3]), (8, [0, 1, 2, 3]), (9, [0, 1, 2, 3]), (10, [0, 1, 2, 3, 4, 5, 6, 7, 8, 9]), (11, []), (12, []), (13, [])]
def oTHiB202_1 : List (Nat × List Nat) := [(0, []), (1, [0]), (2, [0]), (3, [0]), (4, [0]), (5, [0, 1, 2, 3, 4]), (6, [0, 1, 2, 3, 4, 5]), (7, [0, 1, 2, 3, 4, 5, 6]), (8, [0, 1, 2, 3, 4]), (9, [0, 1, 2, 3, 4]), (10, [0]), (11, []), (12, []), (13, [])]
def rgB (r : Rdg) : Prop := r.st.length ≤ 8
def lgBd (x : Leg) : Prop := x.veh.length ≤ 8 ∧ rgB x.out ∧ rgB x.inn
def hiB (k : Nat) (h : Hir) : Prop := h.key.length ≤ 8 ∧ h.drv.length ≤ 8 ∧ h.legs.length ≤ k ∧ ∀ x ∈ h.legs, lgBd x
theorem hiB_le {k m : Nat} {h : Hir} (q : hiB k h) (hk : k ≤ m) : hiB m h := ⟨q.1, q.2.1, by have := q.2.2.1; omega, q.2.2.2⟩
theorem hiB_K {k : Nat} {h : Hir} (q : hiB k h) (hk : k ≤ 1000) : hiK h := by
 obtain ⟨h1, h2, h3, h4⟩ := q
 refine ⟨by omega, by omega, by omega, fun x hx => ?_⟩
 obtain ⟨a, b, c⟩ := h4 x hx
 unfold rgB at b c
 exact ⟨by omega, by omega, by omega⟩
theorem hiB_0 {k : Nat} : hiB k hi0 := ⟨by simp [hi0], by simp [hi0], by simp [hi0], fun x hx => by cases hx⟩
abbrev rcell (r : Rdg) : Res := .cells 160 [.d (.int .i64 r.tm), .d (.str r.st), .d (.int .i64 r.meter), .d (.int .i64 r.fuel)]
abbrev vcell (v : List UInt8) : Res := .cells 9 [.d (.str v)]
abbrev hbuf (h : Hir) (d : Nat) : Res := .cells 130 [.d (.str h.key), .d (.str h.drv), .d (.int .i64 h.frm), .d (.int .i64 h.to), .buf d]
abbrev zcell : Res := .cells 130 [.d (.str []), .d (.str []), .d (.int .i64 0), .d (.int .i64 0), .d .nilsl]
abbrev lgBf (l : List Leg) : Res := seqB 162 9 lgF lg0 l
def rgN : Rdg := ⟨-1, [], 0, 0⟩
def setIn (l : List Leg) (r : Rdg) : List Leg := l.set ((l.length : Int) - 1).toNat { l.getD ((l.length : Int) - 1).toNat lg0 with inn := r }
theorem setIn_len (l : List Leg) (r : Rdg) : (setIn l r).length = l.length := by simp [setIn]
theorem setIn_B {l : List Leg} {r : Rdg} (h : ∀ x ∈ l, lgBd x) (hr : rgB r) : ∀ x ∈ setIn l r, lgBd x := fun x hx => by
 unfold setIn at hx
 rcases List.mem_or_eq_of_mem_set hx with q | q
 · exact h x q
 · subst q
   by_cases e : ((l.length : Int) - 1).toNat < l.length
   · have := h _ (getD_mem (x := lg0) e)
     exact ⟨this.1, this.2.1, hr⟩
   · have : l.getD ((l.length : Int) - 1).toNat lg0 = lg0 := by rw [List.getD_eq_getElem?_getD, List.getElem?_eq_none (by omega)]; rfl
     rw [this]
     exact ⟨by simp [lg0], by simp [lg0, rgB, rg0], hr⟩
theorem Res.le_put_snocF {α : Type} {f : α → List DV} {d x y : α} {l : List α} {e k j off : Nat} {ds : List DV} {h : Nat → List DV} (hj : ∀ z, l[j]? = some z → setAtD (f z) off ds = f x) (hx : h 0 = f y) :
 Res.le (.buf e k (l.length + 1) (appGet l.length (fun i => bif Nat.beq i j then setAtD (rowF f d l i) off ds else rowF f d l i) h)) (seqB e k f d (l.set j x ++ [y])) := by
 refine Res.le_buf (by simp) (fun i hi => ?_)
 have h1 := rows_putF (f := f) (d := d) (l := l) (x := x) (j := j) (off := off) (ds := ds) hj
 rcases Nat.lt_or_ge i l.length with q | q
 · rw [appGet_lt q, h1 i q]
   simp only [rowF]
   rw [getD_app_lt (by simpa using q)]
 · have : i = l.length := by omega
   subst this
   rw [appGet_ge (Nat.le_refl _), Nat.sub_self, hx]
   simp only [rowF]
   congr 1
   rw [List.getD_eq_getElem?_getD, List.getElem?_append_right (by simp)]
   simp
theorem setIn_put {l : List Leg} {r : Rdg} : ∀ z, l[((l.length : Int) - 1).toNat]? = some z → setAtD (lgF z) 5 [.int .i64 r.tm, .str r.st, .int .i64 r.meter, .int .i64 r.fuel] = lgF { l.getD ((l.length : Int) - 1).toNat lg0 with inn := r } := fun z hz => by
 rw [List.getD_eq_getElem?_getD, hz]; rfl
theorem sRdg (n : Nat) (L : Nat → Int) (hL : Rok n L) (a : Int) (h0 : 0 ≤ a) (ha : a ≤ 2^38) (t : Int) (h1 : -2^41 ≤ t) (h2 : t ≤ 2^41) :
 FSpec Tryz.prog 145 [.ptr 1000000 0, .d (.int .i64 t)] [(1000000, strm n L a)] (fun y r => (∃ x : Rdg, rgB x ∧ y = .agg ((rgF x).map .d)) ∧ Moved n L a 12 r) := by
 refine spec_of hT (C := []) Tryz.func145 rfl Tryz.call145 rfl rfl rfl ?_
 conv => whnf
 repeat' (first | (refine CallX.of (s15 n L hL _ ?_ ?_ [[115, 49], [115, 49], [115, 50], [115, 51]] (by simp) (by simp)) [(1000000, 1000000)] rfl ⟨lr, SV.le_lit rfl rfl, trivial⟩ ⟨rr, trivial⟩ rfl rfl ?_; rotate_right; rintro x rout ⟨⟨u1, hu1, rfl⟩, ⟨c, c1, c2, rfl⟩⟩; have hw1 := mem_len hu1 rfl; refine ⟨rfl, ?_⟩; conv => whnf) | (refine CallX.of (s33 n L hL _ ?_ ?_ [0, 5, 100, 500, 999990, 999999] ?_ ?_) [(1000000, 1000000)] rfl ⟨lr, SV.le_lit rfl rfl, trivial⟩ ⟨rr, trivial⟩ rfl rfl ?_; rotate_right; rintro x rout ⟨⟨u2, hu2, rfl⟩, ⟨c, c1, c2, rfl⟩⟩; refine ⟨rfl, ?_⟩; conv => whnf) | (refine CallX.of (s64 n L hL _ ?_ ?_ 0 8 ?_ ?_ ?_ ?_) [(1000000, 1000000)] rfl ⟨lr, lr, lr, trivial⟩ ⟨rr, trivial⟩ rfl rfl ?_; rotate_right; rintro x rout ⟨⟨u3, hu3, hu3', rfl⟩, ⟨c, c1, c2, rfl⟩⟩; refine ⟨rfl, ?_⟩; conv => whnf) | (refine CallX.of (s84 n L hL _ ?_ ?_ _ ?_) [(1000000, 1000000)] rfl ⟨lr, lr, trivial⟩ ⟨rr, trivial⟩ rfl rfl ?_; rotate_right; rintro x rout ⟨⟨f, rfl⟩, ⟨c, c1, c2, rfl⟩⟩; refine ⟨rfl, ?_⟩; conv => whnf) | (refine CallX.of (s33 n L hL _ ?_ ?_ [t, t + 1, -1, 5761440] (by simp) (by simp)) [(1000000, 1000000)] rfl ⟨lr, SV.le_lit rfl rfl, trivial⟩ ⟨rr, trivial⟩ rfl rfl ?_; rotate_right; rintro x rout ⟨⟨u4, hu4, rfl⟩, ⟨c, c1, c2, rfl⟩⟩; refine ⟨rfl, ?_⟩; conv => whnf) | (refine CallX.of (s15 n L hL _ ?_ ?_ [[115, 49], [], [65]] (by simp) (by simp)) [(1000000, 1000000)] rfl ⟨lr, SV.le_lit rfl rfl, trivial⟩ ⟨rr, trivial⟩ rfl rfl ?_; rotate_right; rintro x rout ⟨⟨u5, hu5, rfl⟩, ⟨c, c1, c2, rfl⟩⟩; have hw1 := mem_len hu5 rfl; refine ⟨rfl, ?_⟩; conv => whnf) | (refine CallX.of (s104 n L hL _ ?_ ?_ 0 999999 ?_ ?_ ?_) [(1000000, 1000000)] rfl ⟨lr, lr, lr, trivial⟩ ⟨rr, trivial⟩ rfl rfl ?_; rotate_right; rintro x rout ⟨⟨u6, h6, h6', rfl⟩, ⟨c, c1, c2, rfl⟩⟩; refine ⟨rfl, ?_⟩; conv => whnf) | (refine CallX.of (s104 n L hL _ ?_ ?_ 0 8 ?_ ?_ ?_) [(1000000, 1000000)] rfl ⟨lr, lr, lr, trivial⟩ ⟨rr, trivial⟩ rfl rfl ?_; rotate_right; rintro x rout ⟨⟨u7, h7, h7', rfl⟩, ⟨c, c1, c2, rfl⟩⟩; refine ⟨rfl, ?_⟩; conv => whnf) | (refine br_intro ?_ ?_ <;> intro hb <;> (try simp only [brs] at hb) <;> conv => whnf) | omega | (refine And.intro ?_ ?_; ((try dsimp only); first | omega | (refine szA rfl ?_; omega) | (refine szB rfl ?_; omega) | (unfold inI64; omega) | exact rfl | (simp only [lns] at *; omega) | decide | (unfold inI64; decide)); conv => whnf) | decide | assumption)
 all_goals
  refine .ret _ ?_
  conv => whnf
  exact ⟨[(1000000, strm n L _)], ⟨⟨⟨_, _, _, _⟩, hw1, rfl⟩, _, by omega, by omega, rfl⟩, rr, trivial⟩
theorem pkB {l : List Int} {x : Int} (h : x ∈ l) (hl : (l.all fun y => decide (0 ≤ y) && decide (y ≤ 100000)) = true) : 0 ≤ x ∧ x ≤ 100000 := by
 have := List.all_eq_true.1 hl x h
 simpa using this
theorem sTim (n : Nat) (L : Nat → Int) (hL : Rok n L) (a : Int) (h0 : 0 ≤ a) (ha : a ≤ 2^38) :
 FSpec Tryz.prog 149 [.ptr 1000000 0] [(1000000, strm n L a)] (fun y r => (∃ u v : Int, y = .agg [.d (.int .i64 u), .d (.int .i64 v)]) ∧ Moved n L a 12 r) := by
 refine spec_of hT (C := []) Tryz.func149 rfl Tryz.call149 rfl rfl rfl ?_
 conv => whnf
 repeat' (first | (refine CallX.of (s33 n L hL _ ?_ ?_ [0, 0, 700, 5040, 5700, 6480, 6500, 8000, 10079, 20000] ?_ ?_) [(1000000, 1000000)] rfl ⟨lr, SV.le_lit rfl rfl, trivial⟩ ⟨rr, trivial⟩ rfl rfl ?_; rotate_right; rintro x rout ⟨⟨u1, hu1, rfl⟩, ⟨c, c1, c2, rfl⟩⟩; have hw1 := pkB hu1 (by decide); refine ⟨rfl, ?_⟩; conv => whnf) | (refine CallX.of (s33 n L hL _ ?_ ?_ [1, 59, 60, 61, 300, 1440, 1441, 1500, 2880, 4320, 5850, 7200, 8641, 10080, 11520, 14800, 21600] ?_ ?_) [(1000000, 1000000)] rfl ⟨lr, SV.le_lit rfl rfl, trivial⟩ ⟨rr, trivial⟩ rfl rfl ?_; rotate_right; rintro x rout ⟨⟨u2, hu2, rfl⟩, ⟨c, c1, c2, rfl⟩⟩; have hw2 := pkB hu2 (by decide); refine ⟨rfl, ?_⟩; conv => whnf) | (refine CallX.of (s84 n L hL _ ?_ ?_ _ ?_) [(1000000, 1000000)] rfl ⟨lr, lr, trivial⟩ ⟨rr, trivial⟩ rfl rfl ?_; rotate_right; rintro x rout ⟨⟨f, rfl⟩, ⟨c, c1, c2, rfl⟩⟩; refine ⟨rfl, ?_⟩; conv => whnf) | (refine CallX.of (s104 n L hL _ ?_ ?_ 0 1000 ?_ ?_ ?_) [(1000000, 1000000)] rfl ⟨lr, lr, lr, trivial⟩ ⟨rr, trivial⟩ rfl rfl ?_; rotate_right; rintro x rout ⟨⟨u3, h3, h3', rfl⟩, ⟨c, c1, c2, rfl⟩⟩; refine ⟨rfl, ?_⟩; conv => whnf) | (refine CallX.of (s33 n L hL _ ?_ ?_ [0, 1000, 5761439, 5761440, 172800, 173801] ?_ ?_) [(1000000, 1000000)] rfl ⟨lr, SV.le_lit rfl rfl, trivial⟩ ⟨rr, trivial⟩ rfl rfl ?_; rotate_right; rintro x rout ⟨⟨u4, hu4, rfl⟩, ⟨c, c1, c2, rfl⟩⟩; refine ⟨rfl, ?_⟩; conv => whnf) | (refine br_intro ?_ ?_ <;> intro hb <;> (try simp only [brs] at hb) <;> conv => whnf) | omega | (refine And.intro ?_ ?_; ((try dsimp only); first | omega | (refine szA rfl ?_; omega) | (refine szB rfl ?_; omega) | (unfold inI64; omega) | exact rfl | (simp only [lns] at *; omega) | decide | (unfold inI64; decide)); conv => whnf) | decide | assumption)
 all_goals
  refine .ret _ ?_
  conv => whnf
  exact ⟨[(1000000, strm n L _)], ⟨⟨_, _, rfl⟩, _, by omega, by omega, rfl⟩, rr, trivial⟩
theorem z265 (h : Hir) (hk : hiK h) : FSpec Tryz.prog 200 [.agg ((hiF h).map .d)] [] (fun y r => y = .tup [.agg ((hiF (if hirE h = 0 then h else hi0)).map .d), .d (.int .i64 (hirE h))] ∧ r = []) := by
 have h183 := z183 h hk
 by_cases q : hirE h = 0
 · rw [if_pos q]
   rw [q] at h183 ⊢
   refine spec_of hT (C := []) Tryz.func200 rfl Tryz.call200 rfl rfl rfl ?_
   conv => whnf
   repeat' (first | (refine CallX.exact (h183) rfl rfl ?_; rotate_right; conv => whnf) | (refine br_intro ?_ ?_ <;> intro hb <;> (try simp only [brs] at hb) <;> conv => whnf) | omega | (refine And.intro ?_ ?_; ((try dsimp only); first | omega | (refine szA rfl ?_; omega) | (refine szB rfl ?_; omega) | (unfold inI64; omega) | exact rfl | (simp only [lns] at *; omega) | decide | (unfold inI64; decide)); conv => whnf) | decide | assumption)
   refine .ret _ ?_
   conv => whnf
   exact ⟨[], ⟨rfl, rfl⟩, trivial⟩
 · rw [if_neg q]
   generalize hirE h = E at h183 q
   refine spec_of hT (C := []) Tryz.func200 rfl Tryz.call200 rfl rfl rfl ?_
   conv => whnf
   repeat' (first | (refine CallX.exact (h183) rfl rfl ?_; rotate_right; conv => whnf) | (refine br_intro ?_ ?_ <;> intro hb <;> (try simp only [brs] at hb) <;> conv => whnf) | omega | (refine And.intro ?_ ?_; ((try dsimp only); first | omega | (refine szA rfl ?_; omega) | (refine szB rfl ?_; omega) | (unfold inI64; omega) | exact rfl | (simp only [lns] at *; omega) | decide | (unfold inI64; decide)); conv => whnf) | decide | assumption)
   all_goals first
    | (exfalso; omega)
    | (refine .weak _ ?_
       conv => whnf
       exact ⟨.tup [.agg ((hiF hi0).map .d), .d (.int .i64 E)], [], SV.le_tup ⟨SV.le_agg ⟨lr, lr, lr, lr, SV.le_nilS, trivial⟩, lr, trivial⟩, ⟨rfl, rfl⟩, trivial⟩)
theorem z313 (h : Hir) (hl : h.legs.length ≤ 2^40) : FSpec Tryz.prog 269 [.agg ((hiF h).map .d)] [] (fun y r => (∃ b : Bool, (b = true → 1 ≤ h.legs.length) ∧ y = .d (.bool b)) ∧ r = []) := by
 refine spec_of hT (C := []) Tryz.func269 rfl Tryz.call269 rfl rfl rfl ?_
 conv => whnf
 repeat' (first | (refine br_intro ?_ ?_ <;> intro hb <;> (try simp only [brs] at hb) <;> conv => whnf) | omega | (refine And.intro ?_ ?_; ((try dsimp only); first | omega | (refine szA rfl ?_; omega) | (refine szB rfl ?_; omega) | (unfold inI64; omega) | exact rfl | (simp only [lns] at *; omega) | decide | (unfold inI64; decide)); conv => whnf) | decide | assumption)
 all_goals
  refine .ret _ ?_
  conv => whnf
  exact ⟨[], ⟨⟨_, fun q => (by first | omega | cases q), rfl⟩, rfl⟩, trivial⟩
theorem z216 (l : List Leg) (h1 : 1 ≤ l.length) (hl : l.length ≤ 2^20) : FSpec Tryz.prog 148 [.d (legs l)] [] (fun y r => y = .buf 7 ∧ r = [(7, lgBf l)]) := by
 refine spec_of hT (C := [5]) Tryz.func148 rfl Tryz.call148 rfl rfl rfl ?_
 conv => whnf
 rintro b hbn
 conv => whnf
 repeat' (first | (refine br_intro ?_ ?_ <;> intro hb <;> (try simp only [brs] at hb) <;> conv => whnf) | omega | (refine And.intro ?_ ?_; ((try dsimp only); first | omega | (refine szA rfl ?_; omega) | (refine szB rfl ?_; omega) | (unfold inI64; omega) | exact rfl | (simp only [lns] at *; omega) | decide | (unfold inI64; decide)); conv => whnf) | decide | assumption)
 · exfalso
   have := hbn (by assumption)
   omega
 · refine .ret _ ?_
   conv => whnf
   refine ⟨_, ⟨rfl, rfl⟩, Res.le_buf (by simp) (fun i hi => ?_), trivial⟩
   rw [appGet_ge (by omega)]; rfl
def startH (key drv : List UInt8) (a b : Int) (v : List UInt8) (o : Rdg) : Hir := ⟨key, drv, a, b, [⟨v, o, rgN⟩]⟩
theorem startH_B {key drv : List UInt8} {a b : Int} {v : List UInt8} {o : Rdg} (h1 : key.length ≤ 8) (h2 : drv.length ≤ 8) (h3 : v.length ≤ 8) (h4 : rgB o) : hiB 1 (startH key drv a b v o) :=
 ⟨h1, h2, by simp [startH], fun x hx => by simp [startH] at hx; subst hx; exact ⟨h3, h4, by simp [rgB, rgN]⟩⟩
theorem z212 (key drv : List UInt8) (a b : Int) (v : List UInt8) (o : Rdg) (h1 : key.length ≤ 8) (h2 : drv.length ≤ 8) (h3 : v.length ≤ 8) (h4 : rgB o) :
 FSpec Tryz.prog 144 [.d (.str key), .d (.str drv), .agg [.d (.int .i64 a), .d (.int .i64 b)], .d (.str v), .agg ((rgF o).map .d)] [] (fun y r => y = .tup [.agg ((hiF (if hirE (startH key drv a b v o) = 0 then startH key drv a b v o else hi0)).map .d), .d (.int .i64 (hirE (startH key drv a b v o)))] ∧ r = []) := by
 have h265 := z265 (startH key drv a b v o) (hiB_K (startH_B h1 h2 h3 h4) (by omega))
 generalize hirE (startH key drv a b v o) = E at h265 ⊢
 generalize hH : (if E = 0 then startH key drv a b v o else hi0) = H at h265 ⊢
 refine spec_of hT (C := []) Tryz.func144 rfl Tryz.call144 rfl rfl rfl ?_
 conv => whnf
 repeat' (first | (refine CallX.pure h265 ⟨SV.le_agg ⟨lr, lr, lr, lr, SV.le_lit rfl rfl, trivial⟩, trivial⟩ rfl ?_; conv => whnf) | (refine br_intro ?_ ?_ <;> intro hb <;> (try simp only [brs] at hb) <;> conv => whnf) | omega | (refine And.intro ?_ ?_; ((try dsimp only); first | omega | (refine szA rfl ?_; omega) | (refine szB rfl ?_; omega) | (unfold inI64; omega) | exact rfl | (simp only [lns] at *; omega) | decide | (unfold inI64; decide)); conv => whnf) | decide | assumption)
 refine .ret _ ?_
 conv => whnf
 exact ⟨[], ⟨rfl, rfl⟩, trivial⟩
theorem z268 (h : Hir) (h1 : 1 ≤ h.legs.length) (hl : h.legs.length ≤ 2^20) (r : Rdg) :
 FSpec Tryz.prog 203 [.ptr 1000001 0, .ptr 1000002 0] [(1000001, hbuf h 1000005), (1000002, rcell r), (1000005, lgBf h.legs)] (fun y o => y = .tup [] ∧ o = [(1000001, hbuf h 1000005), (1000002, rcell r), (1000005, lgBf (setIn h.legs r))]) := by
 refine spec_of hT (C := []) Tryz.func203 rfl Tryz.call203 rfl rfl rfl ?_
 conv => whnf
 repeat' (first | (refine br_intro ?_ ?_ <;> intro hb <;> (try simp only [brs] at hb) <;> conv => whnf) | (refine RegX.rule (id := 0) hT rfl [] oTHiB203_0 (by decide +kernel) ?_; conv => whnf) | omega | (refine And.intro ?_ ?_; ((try dsimp only); first | omega | (refine szA rfl ?_; omega) | (refine szB rfl ?_; omega) | (unfold inI64; omega) | exact rfl | (simp only [lns] at *; omega) | decide | (unfold inI64; decide)); conv => whnf) | decide | assumption)
 refine .ret _ ?_
 conv => whnf
 exact ⟨_, ⟨rfl, rfl⟩, rr, rr, Res.le_putF setIn_put, trivial⟩
theorem z267 (h : Hir) (h1 : 1 ≤ h.legs.length) (hl : h.legs.length ≤ 2^20) (ri ro : Rdg) (v : List UInt8) :
 FSpec Tryz.prog 202 [.ptr 1000001 0, .ptr 1000002 0, .ptr 1000003 0, .ptr 1000004 0] [(1000001, hbuf h 1000005), (1000002, rcell ri), (1000003, vcell v), (1000004, rcell ro), (1000005, lgBf h.legs)]
  (fun y o => y = .tup [] ∧ o = [(1000001, hbuf h 28), (1000002, rcell ri), (1000003, vcell v), (1000004, rcell ro), (28, lgBf (setIn h.legs ri ++ [⟨v, ro, rgN⟩]))]) := by
 refine spec_of hT (C := []) Tryz.func202 rfl Tryz.call202 rfl rfl rfl ?_
 conv => whnf
 repeat' (first | (refine br_intro ?_ ?_ <;> intro hb <;> (try simp only [brs] at hb) <;> conv => whnf) | (refine RegX.rule (id := 0) hT rfl [] oTHiB202_0 (by decide +kernel) ?_; conv => whnf) | (refine RegX.rule (id := 1) hT rfl [] oTHiB202_1 (by decide +kernel) ?_; conv => whnf) | omega | (refine And.intro ?_ ?_; ((try dsimp only); first | omega | (refine szA rfl ?_; omega) | (refine szB rfl ?_; omega) | (unfold inI64; omega) | exact rfl | (simp only [lns] at *; omega) | decide | (unfold inI64; decide)); conv => whnf) | decide | assumption)
 refine .ret _ ?_
 conv => whnf
 exact ⟨_, ⟨rfl, rfl⟩, rr, rr, rr, rr, Res.le_put_snocF setIn_put rfl, trivial⟩
set_option maxHeartbeats 1000000 in
theorem z266x (k : Nat) (hk : k ≤ 100) (h : Hir) (hh : hiB k h) (ri ro : Rdg) (v : List UInt8) (h2 : rgB ri) (h3 : rgB ro) (h4 : v.length ≤ 8) :
 FSpec Tryz.prog 201 [.agg ((hiF h).map .d), .fn 202 [.ptr 1000002 0, .ptr 1000003 0, .ptr 1000004 0]] [(1000002, rcell ri), (1000003, vcell v), (1000004, rcell ro)]
  (fun y o => (∃ (h' : Hir) (e : Int), hiB (k + 1) h' ∧ (e = 0 → 1 ≤ h'.legs.length) ∧ y = .tup [.agg ((hiF h').map .d), .d (.int .i64 e)]) ∧ o = [(1000002, rcell ri), (1000003, vcell v), (1000004, rcell ro)]) := by
 have hl := hh.2.2.1
 refine spec_of hT (C := []) Tryz.func201 rfl Tryz.call201 rfl rfl rfl ?_
 conv => whnf
 repeat' (first | (refine CallX.of (z313 h (by omega)) [] rfl ⟨lr, trivial⟩ trivial rfl rfl ?_; rintro x rout ⟨⟨b, hb1, rfl⟩, rfl⟩; refine ⟨rfl, ?_⟩; conv => whnf) | (refine br_intro ?_ ?_ <;> intro hb <;> (try simp only [brs] at hb) <;> conv => whnf) | omega | (refine And.intro ?_ ?_; ((try dsimp only); first | omega | (refine szA rfl ?_; omega) | (refine szB rfl ?_; omega) | (unfold inI64; omega) | exact rfl | (simp only [lns] at *; omega) | decide | (unfold inI64; decide)); conv => whnf) | decide | assumption)
 · refine .weak _ ?_
   conv => whnf
   exact ⟨.tup [.agg ((hiF hi0).map .d), .d (.int .i64 11)], _, SV.le_tup ⟨SV.le_agg ⟨lr, lr, lr, lr, SV.le_nilS, trivial⟩, lr, trivial⟩, ⟨⟨hi0, 11, hiB_0, fun q => absurd q (by decide), rfl⟩, rfl⟩, rr, rr, rr, trivial⟩
 · have hn : 1 ≤ h.legs.length := hb1 (by simpa using hb)
   obtain ⟨H, hH⟩ : ∃ H : Hir, H = ⟨h.key, h.drv, h.frm, h.to, setIn h.legs ri ++ [⟨v, ro, rgN⟩]⟩ := ⟨_, rfl⟩
   have hB : hiB (k + 1) H := by
    subst hH
    refine ⟨hh.1, hh.2.1, by simp [setIn_len]; omega, fun x hx => ?_⟩
    rcases List.mem_append.1 hx with q | q
    · exact setIn_B hh.2.2.2 h2 x q
    · simp at q; subst q; exact ⟨h4, h3, by simp [rgB, rgN]⟩
   have hHl : 1 ≤ H.legs.length := by subst hH; simp
   have h265 := z265 H (hiB_K hB (by omega))
   generalize hirE H = E at h265
   have hres : ∃ (h' : Hir), hiB (k + 1) h' ∧ (E = 0 → 1 ≤ h'.legs.length) ∧ (if E = 0 then H else hi0) = h' := by
    by_cases q : E = 0
    · rw [if_pos q]; exact ⟨H, hB, fun _ => hHl, rfl⟩
    · rw [if_neg q]; exact ⟨hi0, hiB_0, fun p => absurd p q, rfl⟩
   obtain ⟨H', hB', hl', he'⟩ := hres
   rw [he'] at h265
   subst hH
   refine CallX.of (z216 h.legs hn (by omega)) [(7, 20)] rfl ⟨lr, trivial⟩ trivial rfl rfl ?_
   rintro x rout ⟨rfl, rfl⟩
   refine ⟨rfl, ?_⟩
   conv => whnf
   repeat' (first | (refine CallX.of (z267 h hn (by omega) ri ro v) [(1000001, 2), (1000002, 1000002), (1000003, 1000003), (1000004, 1000004), (1000005, 20), (28, 40)] rfl ⟨lr, lr, lr, lr, trivial⟩ ⟨rr, rr, rr, rr, rr, trivial⟩ rfl rfl ?_; rintro x rout ⟨rfl, rfl⟩; refine ⟨rfl, ?_⟩; conv => whnf) | (refine CallX.freeze _ _ _ _ 40 162 9 _ _ rfl rfl ?_; refine CallX.pure h265 ⟨SV.le_agg ⟨lr, lr, lr, lr, lr, trivial⟩, trivial⟩ rfl ?_; conv => whnf) | (refine br_intro ?_ ?_ <;> intro hb <;> (try simp only [brs] at hb) <;> conv => whnf) | omega | (refine And.intro ?_ ?_; ((try dsimp only); first | omega | (refine szA rfl ?_; omega) | (refine szB rfl ?_; omega) | (unfold inI64; omega) | exact rfl | (simp only [lns] at *; omega) | decide | (unfold inI64; decide)); conv => whnf) | decide | assumption)
   refine .ret _ ?_
   conv => whnf
   exact ⟨_, ⟨⟨H', _, hB', hl', rfl⟩, rfl⟩, rr, rr, rr, trivial⟩
set_option maxHeartbeats 1000000 in
theorem z266c (k : Nat) (hk : k ≤ 100) (h : Hir) (hh : hiB k h) (ri : Rdg) (h2 : rgB ri) :
 FSpec Tryz.prog 201 [.agg ((hiF h).map .d), .fn 203 [.ptr 1000002 0]] [(1000002, rcell ri)]
  (fun y o => (∃ (h' : Hir) (e : Int), hiB k h' ∧ (e = 0 → 1 ≤ h'.legs.length) ∧ y = .tup [.agg ((hiF h').map .d), .d (.int .i64 e)]) ∧ o = [(1000002, rcell ri)]) := by
 have hl := hh.2.2.1
 refine spec_of hT (C := []) Tryz.func201 rfl Tryz.call201 rfl rfl rfl ?_
 conv => whnf
 repeat' (first | (refine CallX.of (z313 h (by omega)) [] rfl ⟨lr, trivial⟩ trivial rfl rfl ?_; rintro x rout ⟨⟨b, hb1, rfl⟩, rfl⟩; refine ⟨rfl, ?_⟩; conv => whnf) | (refine br_intro ?_ ?_ <;> intro hb <;> (try simp only [brs] at hb) <;> conv => whnf) | omega | (refine And.intro ?_ ?_; ((try dsimp only); first | omega | (refine szA rfl ?_; omega) | (refine szB rfl ?_; omega) | (unfold inI64; omega) | exact rfl | (simp only [lns] at *; omega) | decide | (unfold inI64; decide)); conv => whnf) | decide | assumption)
 · refine .weak _ ?_
   conv => whnf
   exact ⟨.tup [.agg ((hiF hi0).map .d), .d (.int .i64 11)], _, SV.le_tup ⟨SV.le_agg ⟨lr, lr, lr, lr, SV.le_nilS, trivial⟩, lr, trivial⟩, ⟨⟨hi0, 11, hiB_0, fun q => absurd q (by decide), rfl⟩, rfl⟩, rr, trivial⟩
 · have hn : 1 ≤ h.legs.length := hb1 (by simpa using hb)
   obtain ⟨H, hH⟩ : ∃ H : Hir, H = ⟨h.key, h.drv, h.frm, h.to, setIn h.legs ri⟩ := ⟨_, rfl⟩
   have hB : hiB k H := by
    subst hH
    exact ⟨hh.1, hh.2.1, by simp [setIn_len]; omega, setIn_B hh.2.2.2 h2⟩
   have hHl : 1 ≤ H.legs.length := by subst hH; simp [setIn_len]; omega
   have h265 := z265 H (hiB_K hB (by omega))
   generalize hirE H = E at h265
   have hres : ∃ (h' : Hir), hiB k h' ∧ (E = 0 → 1 ≤ h'.legs.length) ∧ (if E = 0 then H else hi0) = h' := by
    by_cases q : E = 0
    · rw [if_pos q]; exact ⟨H, hB, fun _ => hHl, rfl⟩
    · rw [if_neg q]; exact ⟨hi0, hiB_0, fun p => absurd p q, rfl⟩
   obtain ⟨H', hB', hl', he'⟩ := hres
   rw [he'] at h265
   subst hH
   refine CallX.of (z216 h.legs hn (by omega)) [(7, 20)] rfl ⟨lr, trivial⟩ trivial rfl rfl ?_
   rintro x rout ⟨rfl, rfl⟩
   refine ⟨rfl, ?_⟩
   conv => whnf
   repeat' (first | (refine CallX.of (z268 h hn (by omega) ri) [(1000001, 2), (1000002, 1000002), (1000005, 20)] rfl ⟨lr, lr, trivial⟩ ⟨rr, rr, rr, trivial⟩ rfl rfl ?_; rintro x rout ⟨rfl, rfl⟩; refine ⟨rfl, ?_⟩; conv => whnf) | (refine CallX.freeze _ _ _ _ 20 162 9 _ _ rfl rfl ?_; refine CallX.pure h265 ⟨SV.le_agg ⟨lr, lr, lr, lr, lr, trivial⟩, trivial⟩ rfl ?_; conv => whnf) | (refine br_intro ?_ ?_ <;> intro hb <;> (try simp only [brs] at hb) <;> conv => whnf) | omega | (refine And.intro ?_ ?_; ((try dsimp only); first | omega | (refine szA rfl ?_; omega) | (refine szB rfl ?_; omega) | (unfold inI64; omega) | exact rfl | (simp only [lns] at *; omega) | decide | (unfold inI64; decide)); conv => whnf) | decide | assumption)
   refine .ret _ ?_
   conv => whnf
   exact ⟨_, ⟨⟨H', _, hB', hl', rfl⟩, rfl⟩, rr, trivial⟩
theorem z214 (k : Nat) (hk : k ≤ 100) (h : Hir) (hh : hiB k h) (ri ro : Rdg) (v : List UInt8) (h2 : rgB ri) (h3 : rgB ro) (h4 : v.length ≤ 8) :
 FSpec Tryz.prog 146 [.agg ((hiF h).map .d), .agg ((rgF ri).map .d), .d (.str v), .agg ((rgF ro).map .d)] []
  (fun y o => (∃ (h' : Hir) (e : Int), hiB (k + 1) h' ∧ (e = 0 → 1 ≤ h'.legs.length) ∧ y = .tup [.agg ((hiF h').map .d), .d (.int .i64 e)]) ∧ o = []) := by
 refine spec_of hT (C := []) Tryz.func146 rfl Tryz.call146 rfl rfl rfl ?_
 conv => whnf
 repeat' (first | (refine CallX.of (z266x k hk h hh ri ro v h2 h3 h4) [(1000002, 5), (1000003, 6), (1000004, 7)] rfl ⟨lr, lr, trivial⟩ ⟨rr, rr, rr, trivial⟩ rfl rfl ?_; rintro x rout ⟨⟨h5, e5, hb5, hl5, rfl⟩, rfl⟩; refine ⟨rfl, ?_⟩; conv => whnf) | (refine br_intro ?_ ?_ <;> intro hb <;> (try simp only [brs] at hb) <;> conv => whnf) | omega | (refine And.intro ?_ ?_; ((try dsimp only); first | omega | (refine szA rfl ?_; omega) | (refine szB rfl ?_; omega) | (unfold inI64; omega) | exact rfl | (simp only [lns] at *; omega) | decide | (unfold inI64; decide)); conv => whnf) | decide | assumption)
 refine .ret _ ?_
 conv => whnf
 exact ⟨[], ⟨⟨h5, e5, hb5, hl5, rfl⟩, rfl⟩, trivial⟩
theorem z215 (k : Nat) (hk : k ≤ 100) (h : Hir) (hh : hiB k h) (ri : Rdg) (h2 : rgB ri) :
 FSpec Tryz.prog 147 [.agg ((hiF h).map .d), .agg ((rgF ri).map .d)] []
  (fun y o => (∃ (h' : Hir) (e : Int), hiB k h' ∧ (e = 0 → 1 ≤ h'.legs.length) ∧ y = .tup [.agg ((hiF h').map .d), .d (.int .i64 e)]) ∧ o = []) := by
 refine spec_of hT (C := []) Tryz.func147 rfl Tryz.call147 rfl rfl rfl ?_
 conv => whnf
 repeat' (first | (refine CallX.of (z266c k hk h hh ri h2) [(1000002, 3)] rfl ⟨lr, lr, trivial⟩ ⟨rr, trivial⟩ rfl rfl ?_; rintro x rout ⟨⟨h5, e5, hb5, hl5, rfl⟩, rfl⟩; refine ⟨rfl, ?_⟩; conv => whnf) | (refine br_intro ?_ ?_ <;> intro hb <;> (try simp only [brs] at hb) <;> conv => whnf) | omega | (refine And.intro ?_ ?_; ((try dsimp only); first | omega | (refine szA rfl ?_; omega) | (refine szB rfl ?_; omega) | (unfold inI64; omega) | exact rfl | (simp only [lns] at *; omega) | decide | (unfold inI64; decide)); conv => whnf) | decide | assumption)
 refine .ret _ ?_
 conv => whnf
 exact ⟨[], ⟨⟨h5, e5, hb5, hl5, rfl⟩, rfl⟩, trivial⟩
def oTHiC69_4 : List (Nat × List Nat) := [(0, []), (1, [0]), (2, [0, 1]), (4, [0, 1, 2]), (5, [0, 1, 2, 4]), (6, [0, 1, 2, 4, 5]), (8, [0, 1, 2, 4, 5, 6]), (9, [0, 1, 2, 4, 5, 6, 8]), (15, [0, 1, 2, 4, 5, 6, 8, 9]), (3, [0, 4, 5, 6, 8, 9, 15]), (7, [0, 4, 8, 9, 15]), (10, [0, 4, 15]), (11, [15]), (12, [15]), (13, [15]), (14, [15, 13]), (16, [14]), (17, [])]
def oTHiC69_13 : List (Nat × List Nat) := [(0, []), (1, [0]), (2, [0, 1]), (3, [0, 1, 2]), (5, [0, 1, 2, 3]), (10, [0, 1, 2, 3, 5]), (4, [0, 1, 5, 10]), (6, [10]), (7, [10]), (8, [10]), (9, [10, 8]), (11, [9]), (12, [])]
def oTHiC69_19 : List (Nat × List Nat) := [(0, []), (1, [0]), (2, [0, 1]), (8, [0, 1, 2]), (3, [0, 8]), (4, [8]), (5, [8]), (6, [8]), (7, [8, 6]), (9, [7]), (10, [])]
theorem hirE_start {key : List UInt8} {f : Int} (hk : isKeyB key = true) (h0 : 0 ≤ f) (h1 : f ≤ 10000) : hirE (startH key [97, 110, 110] f (f + 60) [118, 49] ⟨f, [115, 49], 0, 0⟩) = 0 := by
 have k1 : isKeyB [97, 110, 110] = true := by decide
 have k2 : isKeyB [118, 49] = true := by decide
 have k3 : isKeyB [115, 49] = true := by decide
 have ht : timE f (f + 60) = 0 := by unfold timE; grind
 have hr : rdgE ⟨f, [115, 49], 0, 0⟩ = 0 := by unfold rdgE; simp only [k3]; grind
 rw [hirE_legs (by exact hk) (by exact k1) (by exact ht)]
 have hl : legE (startH key [97, 110, 110] f (f + 60) [118, 49] ⟨f, [115, 49], 0, 0⟩) 0 = 0 := by
  unfold legE startH
  simp only [List.getD_cons_zero, k2, hr, rgN]
  simp
 rw [if_neg (by simp [startH]), if_neg (by simp [startH])]
 show firstAt _ 1 = 0
 simp [firstAt, hl]
theorem pkD {l : List Int} {x : Int} (h : x ∈ l) (hl : (l.all fun y => decide (0 ≤ y) && decide (y ≤ 3000)) = true) : 0 ≤ x ∧ x ≤ 3000 := by
 have := List.all_eq_true.1 hl x h
 simpa using this
theorem pkT {x : Int} (h : x ∈ [(0 : Int), 0, 1, 2]) : 0 ≤ x ∧ x ≤ 2 := by simp at h; omega
set_option maxHeartbeats 4000000 in
theorem sRh (n : Nat) (L : Nat → Int) (hL : Rok n L) (a : Int) (h0 : 0 ≤ a) (ha : a ≤ 2^37) (key : List UInt8) (hkl : key.length ≤ 8) (f : Int) (hf0 : 0 ≤ f) (hf1 : f ≤ 10000) :
 FSpec Tryz.prog 69 [.ptr 1000000 0, .d (.str key), .d (.int .i64 f)] [(1000000, strm n L a)] (fun y r => (∃ h : Hir, hiB 3 h ∧ (isKeyB key = true → 1 ≤ h.legs.length) ∧ y = .agg ((hiF h).map .d)) ∧ Moved n L a 400 r) := by
 refine spec_of hT (C := []) Tryz.func69 rfl Tryz.call69 rfl rfl rfl ?_
 conv => whnf
 repeat' (first | (refine br_intro ?_ ?_ <;> intro hb <;> (try simp only [brs] at hb) <;> conv => whnf) | (refine RegX.rule (id := 4) hT rfl [] oTHiC69_4 (by decide +kernel) ?_; conv => whnf) | (refine RegX.rule (id := 13) hT rfl [] oTHiC69_13 (by decide +kernel) ?_; conv => whnf) | (refine RegX.rule (id := 19) hT rfl [] oTHiC69_19 (by decide +kernel) ?_; conv => whnf) | omega | (refine And.intro ?_ ?_; ((try dsimp only); first | omega | (refine szA rfl ?_; omega) | (refine szB rfl ?_; omega) | (unfold inI64; omega) | exact rfl | (simp only [lns] at *; omega) | decide | (unfold inI64; decide)); conv => whnf) | decide | assumption)
 refine LoopX.rule hT (C := []) (ι := Int × Nat) (fun (b, i) => a ≤ b ∧ b ≤ a + 20 * i ∧ i ≤ 6) (fun (b, i) => mkSt [(0, .ptr 1000000 0), (1, .d (.str key)), (2, .d (.int .i64 f)), (6, .ptr 6 0), (19, .d (.int .i64 i))] [(1000000, strm n L b), (6, zcell)]) (fun (_, i) => 6 - i) (a, 0) (by simp) (by (refine Entails.mk' [(1000000, 1000000), (6, 6)] rfl rfl ?_ ?_ <;> repeat' (first | exact True.intro | exact lr | exact rr | exact SV.le_int (by omega) | exact SV.le_any _ | refine And.intro ?_ ?_)); done) ?_
 rintro ⟨b, i⟩ ⟨p1, p2, p3⟩
 have p1 : a ≤ b := p1
 have p2 : b ≤ a + 20 * i := p2
 have p3 : i ≤ 6 := p3
 conv => whnf
 repeat' (first | (refine CallX.of (s33 n L hL _ ?_ ?_ [60, 100, 1440, 2000, 3000] ?_ ?_) [(1000000, 1000000)] rfl ⟨lr, SV.le_lit rfl rfl, trivial⟩ ⟨rr, trivial⟩ rfl rfl ?_; rotate_right; rintro x rout ⟨⟨u1, hu1, rfl⟩, ⟨c, c1, c2, rfl⟩⟩; have hw1 := pkD hu1 (by decide); refine ⟨rfl, ?_⟩; conv => whnf) | (refine CallX.of (s15 n L hL _ ?_ ?_ [[97, 110, 110], [97, 110, 110], [98, 111, 98], [99, 105, 100]] (by simp) (by simp)) [(1000000, 1000000)] rfl ⟨lr, SV.le_lit rfl rfl, trivial⟩ ⟨rr, trivial⟩ rfl rfl ?_; rotate_right; rintro x rout ⟨⟨u2, hu2, rfl⟩, ⟨c, c1, c2, rfl⟩⟩; have hw2 := mem_len hu2 rfl; refine ⟨rfl, ?_⟩; conv => whnf) | (refine CallX.of (s15 n L hL _ ?_ ?_ [[118, 49], [118, 49], [118, 50], [118, 51]] (by simp) (by simp)) [(1000000, 1000000)] rfl ⟨lr, SV.le_lit rfl rfl, trivial⟩ ⟨rr, trivial⟩ rfl rfl ?_; rotate_right; rintro x rout ⟨⟨u3, hu3, rfl⟩, ⟨c, c1, c2, rfl⟩⟩; have hw3 := mem_len hu3 rfl; refine ⟨rfl, ?_⟩; conv => whnf) | (refine CallX.of (sRdg n L hL _ ?_ ?_ f ?_ ?_) [(1000000, 1000000)] rfl ⟨lr, lr, trivial⟩ ⟨rr, trivial⟩ rfl rfl ?_; rotate_right; rintro x rout ⟨⟨r1, hr1, rfl⟩, ⟨c, c1, c2, rfl⟩⟩; refine ⟨rfl, ?_⟩; conv => whnf) | (refine CallX.pure (z212 key u2 f (f + u1) u3 r1 hkl hw2 hw3 hr1) ⟨lr, lr, lr, lr, lr, trivial⟩ rfl ?_; conv => whnf) | (refine CallX.pure (z212 key [97, 110, 110] f (f + 60) [118, 49] ⟨f, [115, 49], 0, 0⟩ hkl (by decide) (by decide) (show ([115, 49] : List UInt8).length ≤ 8 by decide)) ⟨lr, lr, lr, lr, lr, trivial⟩ rfl ?_; conv => whnf) | (refine br_intro ?_ ?_ <;> intro hb <;> (try simp only [brs] at hb) <;> conv => whnf) | (refine RegX.rule (id := 4) hT rfl [] oTHiC69_4 (by decide +kernel) ?_; conv => whnf) | (refine RegX.rule (id := 13) hT rfl [] oTHiC69_13 (by decide +kernel) ?_; conv => whnf) | (refine RegX.rule (id := 19) hT rfl [] oTHiC69_19 (by decide +kernel) ?_; conv => whnf) | omega | (refine And.intro ?_ ?_; ((try dsimp only); first | omega | (refine szA rfl ?_; omega) | (refine szB rfl ?_; omega) | (unfold inI64; omega) | exact rfl | (simp only [lns] at *; omega) | decide | (unfold inI64; decide)); conv => whnf) | decide | assumption)
 all_goals first
  | (refine ⟨(_, i + 1), ⟨by omega, ?_, by omega⟩, (show 6 - (i + 1) < 6 - i by omega), Entails.mk' [(1000000, 1000000), (6, 6)] rfl rfl ⟨lr, lr, lr, lr, lr, trivial⟩ ⟨rr, rr, trivial⟩⟩
     show _ ≤ a + 20 * ((i + 1 : Nat) : Int)
     omega)
  | (have hE := fun h => hirE_start (key := key) (f := f) h hf0 hf1
     have hB := startH_B (key := key) (drv := [97, 110, 110]) (a := f) (b := f + 60) (v := [118, 49]) (o := ⟨f, [115, 49], 0, 0⟩) hkl (by decide) (by decide) (show ([115, 49] : List UInt8).length ≤ 8 by decide)
     obtain ⟨H, hH⟩ : ∃ H : Hir, H = if hirE (startH key [97, 110, 110] f (f + 60) [118, 49] ⟨f, [115, 49], 0, 0⟩) = 0 then startH key [97, 110, 110] f (f + 60) [118, 49] ⟨f, [115, 49], 0, 0⟩ else hi0 := ⟨_, rfl⟩
     have hfin : hiB 3 H := by
      subst hH
      split
      · exact hiB_le hB (by omega)
      · exact hiB_0
     have hfl : isKeyB key = true → 1 ≤ H.legs.length := fun q => by
      subst hH
      rw [if_pos (hE q)]; simp [startH]
     refine .ret _ ?_
     conv => whnf
     exact ⟨[(1000000, strm n L _)], ⟨⟨_, by rw [← hH]; exact hfin, by rw [← hH]; exact hfl, rfl⟩, _, by omega, by omega, rfl⟩, rr, trivial⟩)
  | skip
 all_goals
  have hE : hirE (startH key u2 f (f + u1) u3 r1) = 0 := by omega
  rw [if_pos hE]
  have hB := startH_B (key := key) (drv := u2) (a := f) (b := f + u1) (v := u3) (o := r1) hkl hw2 hw3 hr1
  have hBl : 1 ≤ (startH key u2 f (f + u1) u3 r1).legs.length := by simp [startH]
  generalize startH key u2 f (f + u1) u3 r1 = H0 at hB hBl ⊢
  repeat' (first | (refine CallX.of (s33 n L hL _ ?_ ?_ [0, 0, 1, 2] ?_ ?_) [(1000000, 1000000)] rfl ⟨lr, SV.le_lit rfl rfl, trivial⟩ ⟨rr, trivial⟩ rfl rfl ?_; rotate_right; rintro x rout ⟨⟨k, hk, rfl⟩, ⟨c, c1, c2, rfl⟩⟩; have hk2 := pkT hk; refine ⟨rfl, ?_⟩; conv => whnf) | (refine br_intro ?_ ?_ <;> intro hb <;> (try simp only [brs] at hb) <;> conv => whnf) | (refine RegX.rule (id := 4) hT rfl [] oTHiC69_4 (by decide +kernel) ?_; conv => whnf) | (refine RegX.rule (id := 13) hT rfl [] oTHiC69_13 (by decide +kernel) ?_; conv => whnf) | (refine RegX.rule (id := 19) hT rfl [] oTHiC69_19 (by decide +kernel) ?_; conv => whnf) | omega | (refine And.intro ?_ ?_; ((try dsimp only); first | omega | (refine szA rfl ?_; omega) | (refine szB rfl ?_; omega) | (unfold inI64; omega) | exact rfl | (simp only [lns] at *; omega) | decide | (unfold inI64; decide)); conv => whnf) | decide | assumption)
  obtain ⟨c0, hc0⟩ : ∃ c0, c0 = c := ⟨_, rfl⟩
  refine LoopX.rule hT (C := []) (ι := Int × Int × Hir × Nat) (fun (d, t, h, j) => (c0 ≤ d ∧ d ≤ c0 + 1 + 30 * j) ∧ (f ≤ t ∧ t ≤ f + 3000 * j) ∧ ((j : Int) ≤ k ∧ hiB (1 + j) h ∧ 1 ≤ h.legs.length))
   (fun (d, t, h, j) => mkSt [(0, .ptr 1000000 0), (6, .ptr 6 0), (8, .ptr 8 0), (10, .d (.int .i64 t)), (48, .d (.int .i64 k)), (49, .d (.int .i64 j))] [(1000000, strm n L d), (6, zcell), (8, hcell h)])
   (fun (_, _, _, j) => (k - j).toNat) (c, f, H0, 0) ⟨⟨by omega, by omega⟩, ⟨by omega, by omega⟩, ⟨by omega, hB, hBl⟩⟩ (by (refine Entails.mk' [(1000000, 1000000), (6, 6), (8, 8)] rfl rfl ?_ ?_ <;> repeat' (first | exact True.intro | exact lr | exact rr | exact SV.le_int (by omega) | exact SV.le_any _ | refine And.intro ?_ ?_)); done) ?_
  rintro ⟨d, t, h, j⟩ ⟨⟨r1', r2'⟩, ⟨r3, r4⟩, ⟨r5, r6, r7⟩⟩
  have r1' : c0 ≤ d := r1'
  have r2' : d ≤ c0 + 1 + 30 * j := r2'
  have r3 : f ≤ t := r3
  have r4 : t ≤ f + 3000 * j := r4
  have r5 : (j : Int) ≤ k := r5
  have r6 : hiB (1 + j) h := r6
  have r7 : 1 ≤ h.legs.length := r7
  have hj2 : j ≤ 2 := by omega
  conv => whnf
  repeat' (first | (refine CallX.of (s33 n L hL _ ?_ ?_ [1, 30, 100, 500] ?_ ?_) [(1000000, 1000000)] rfl ⟨lr, SV.le_lit rfl rfl, trivial⟩ ⟨rr, trivial⟩ rfl rfl ?_; rotate_right; rintro x rout ⟨⟨v1, hv1, rfl⟩, ⟨c, c1, c2, rfl⟩⟩; have hy1 := pkD hv1 (by decide); refine ⟨rfl, ?_⟩; conv => whnf) | (refine br_intro ?_ ?_ <;> intro hb <;> (try simp only [brs] at hb) <;> conv => whnf) | (refine RegX.rule (id := 4) hT rfl [] oTHiC69_4 (by decide +kernel) ?_; conv => whnf) | (refine RegX.rule (id := 13) hT rfl [] oTHiC69_13 (by decide +kernel) ?_; conv => whnf) | (refine RegX.rule (id := 19) hT rfl [] oTHiC69_19 (by decide +kernel) ?_; conv => whnf) | omega | (refine And.intro ?_ ?_; ((try dsimp only); first | omega | (refine szA rfl ?_; omega) | (refine szB rfl ?_; omega) | (unfold inI64; omega) | exact rfl | (simp only [lns] at *; omega) | decide | (unfold inI64; decide)); conv => whnf) | decide | assumption)
  · refine CallX.of (sRdg n L hL _ (by omega) (by omega) (t + v1) (by omega) (by omega)) [(1000000, 1000000)] rfl ⟨lr, lr, trivial⟩ ⟨rr, trivial⟩ rfl rfl ?_
    rintro x rout ⟨⟨ri, hri, rfl⟩, ⟨c3, c4, c5, rfl⟩⟩
    refine ⟨rfl, ?_⟩
    conv => whnf
    repeat' (first | (refine br_intro ?_ ?_ <;> intro hb <;> (try simp only [brs] at hb) <;> conv => whnf) | (refine RegX.rule (id := 4) hT rfl [] oTHiC69_4 (by decide +kernel) ?_; conv => whnf) | (refine RegX.rule (id := 13) hT rfl [] oTHiC69_13 (by decide +kernel) ?_; conv => whnf) | (refine RegX.rule (id := 19) hT rfl [] oTHiC69_19 (by decide +kernel) ?_; conv => whnf) | omega | (refine And.intro ?_ ?_; ((try dsimp only); first | omega | (refine szA rfl ?_; omega) | (refine szB rfl ?_; omega) | (unfold inI64; omega) | exact rfl | (simp only [lns] at *; omega) | decide | (unfold inI64; decide)); conv => whnf) | decide | assumption)
    refine CallX.of (sRdg n L hL _ (by omega) (by omega) (t + v1) (by omega) (by omega)) [(1000000, 1000000)] rfl ⟨lr, lr, trivial⟩ ⟨rr, trivial⟩ rfl rfl ?_
    rintro x rout ⟨⟨ro, hro, rfl⟩, ⟨c6, c7, c8, rfl⟩⟩
    refine ⟨rfl, ?_⟩
    conv => whnf
    repeat' (first | (refine CallX.of (s15 n L hL _ ?_ ?_ [[118, 49], [118, 50], [118, 51], [118, 52]] (by simp) (by simp)) [(1000000, 1000000)] rfl ⟨lr, SV.le_lit rfl rfl, trivial⟩ ⟨rr, trivial⟩ rfl rfl ?_; rotate_right; rintro x rout ⟨⟨v2, hv2, rfl⟩, ⟨c, c1, c2, rfl⟩⟩; have hy2 := mem_len hv2 rfl; refine ⟨rfl, ?_⟩; conv => whnf) | (refine CallX.of (z214 (1 + j) (by omega) h r6 ri { ro with st := ri.st } v2 hri hri hy2) [] rfl ⟨lr, lr, lr, lr, trivial⟩ trivial rfl rfl ?_; rintro x rout ⟨⟨h5, e5, hb5, hl5, rfl⟩, rfl⟩; refine ⟨rfl, ?_⟩; conv => whnf) | (refine br_intro ?_ ?_ <;> intro hb <;> (try simp only [brs] at hb) <;> conv => whnf) | (refine RegX.rule (id := 4) hT rfl [] oTHiC69_4 (by decide +kernel) ?_; conv => whnf) | (refine RegX.rule (id := 13) hT rfl [] oTHiC69_13 (by decide +kernel) ?_; conv => whnf) | (refine RegX.rule (id := 19) hT rfl [] oTHiC69_19 (by decide +kernel) ?_; conv => whnf) | omega | (refine And.intro ?_ ?_; ((try dsimp only); first | omega | (refine szA rfl ?_; omega) | (refine szB rfl ?_; omega) | (unfold inI64; omega) | exact rfl | (simp only [lns] at *; omega) | decide | (unfold inI64; decide)); conv => whnf) | decide | assumption)
    · refine ⟨(_, t + v1, h5, j + 1), ⟨⟨by omega, ?_⟩, ⟨by omega, ?_⟩, ⟨by omega, hb5, hl5 (by omega)⟩⟩, (show (k - ((j + 1 : Nat) : Int)).toNat < (k - (j : Int)).toNat by omega), Entails.mk' [(1000000, 1000000), (6, 6), (8, 8)] rfl rfl ⟨lr, lr, lr, lr, lr, lr, trivial⟩ ⟨rr, rr, rr, trivial⟩⟩
      · show _ ≤ c0 + 1 + 30 * ((j + 1 : Nat) : Int)
        omega
      · show _ ≤ f + 3000 * ((j + 1 : Nat) : Int)
        omega
    · refine ⟨(_, t + v1, h, j + 1), ⟨⟨by omega, ?_⟩, ⟨by omega, ?_⟩, ⟨by omega, hiB_le r6 (by omega), r7⟩⟩, (show (k - ((j + 1 : Nat) : Int)).toNat < (k - (j : Int)).toNat by omega), Entails.mk' [(1000000, 1000000), (6, 6), (8, 8)] rfl rfl ⟨lr, lr, lr, lr, lr, lr, trivial⟩ ⟨rr, rr, rr, trivial⟩⟩
      · show _ ≤ c0 + 1 + 30 * ((j + 1 : Nat) : Int)
        omega
      · show _ ≤ f + 3000 * ((j + 1 : Nat) : Int)
        omega
  · have r6 : hiB 3 h := hiB_le r6 (by omega)
    repeat' (first | (refine CallX.of (s84 n L hL _ ?_ ?_ _ ?_) [(1000000, 1000000)] rfl ⟨lr, lr, trivial⟩ ⟨rr, trivial⟩ rfl rfl ?_; rotate_right; rintro x rout ⟨⟨w, rfl⟩, ⟨c, c1, c2, rfl⟩⟩; refine ⟨rfl, ?_⟩; conv => whnf) | (refine CallX.of (s33 n L hL _ ?_ ?_ [1, 50, 100, 1440, 1470, 1471, 1500, 3000] ?_ ?_) [(1000000, 1000000)] rfl ⟨lr, SV.le_lit rfl rfl, trivial⟩ ⟨rr, trivial⟩ rfl rfl ?_; rotate_right; rintro x rout ⟨⟨v1, hv1, rfl⟩, ⟨c, c1, c2, rfl⟩⟩; have hy1 := pkD hv1 (by decide); refine ⟨rfl, ?_⟩; conv => whnf) | (refine CallX.of (sRdg n L hL _ ?_ ?_ (t + v1) ?_ ?_) [(1000000, 1000000)] rfl ⟨lr, lr, trivial⟩ ⟨rr, trivial⟩ rfl rfl ?_; rotate_right; rintro x rout ⟨⟨ri, hri, rfl⟩, ⟨c9, c10, c11, rfl⟩⟩; refine ⟨rfl, ?_⟩; conv => whnf) | (refine CallX.of (z215 3 (by omega) h r6 ri hri) [] rfl ⟨lr, lr, trivial⟩ trivial rfl rfl ?_; rintro x rout ⟨⟨h5, e5, hb5, hl5, rfl⟩, rfl⟩; refine ⟨rfl, ?_⟩; conv => whnf) | (refine br_intro ?_ ?_ <;> intro hb <;> (try simp only [brs] at hb) <;> conv => whnf) | (refine RegX.rule (id := 4) hT rfl [] oTHiC69_4 (by decide +kernel) ?_; conv => whnf) | (refine RegX.rule (id := 13) hT rfl [] oTHiC69_13 (by decide +kernel) ?_; conv => whnf) | (refine RegX.rule (id := 19) hT rfl [] oTHiC69_19 (by decide +kernel) ?_; conv => whnf) | omega | (refine And.intro ?_ ?_; ((try dsimp only); first | omega | (refine szA rfl ?_; omega) | (refine szB rfl ?_; omega) | (unfold inI64; omega) | exact rfl | (simp only [lns] at *; omega) | decide | (unfold inI64; decide)); conv => whnf) | decide | assumption)
    all_goals first
     | (refine .ret _ ?_
        conv => whnf
        exact ⟨[(1000000, strm n L _)], ⟨⟨h, r6, fun _ => r7, rfl⟩, _, by omega, by omega, rfl⟩, rr, trivial⟩)
     | (refine .ret _ ?_
        conv => whnf
        exact ⟨[(1000000, strm n L _)], ⟨⟨h5, hb5, fun _ => hl5 (by omega), rfl⟩, _, by omega, by omega, rfl⟩, rr, trivial⟩)
def oTDNtA18_8 : List (Nat × List Nat) := [(0, []), (1, []), (2, []), (3, []), (4, []), (5, [3, 4]), (6, [3, 4, 5]), (7, [3, 4, 5]), (8, [3, 4]), (9, [3, 4]), (10, [3, 4]), (11, []), (12, []), (13, [])]
def oTDNtA26_1 : List (Nat × List Nat) := [(0, []), (2, [0]), (3, [0]), (5, [0, 2, 3]), (7, [0, 2, 3, 5]), (8, [0, 2, 3, 5, 7]), (9, [0, 2, 3, 5, 7]), (10, [0, 2, 3, 5]), (1, [2, 3, 5, 7, 8, 9, 10]), (4, [5, 7, 8, 9, 10]), (6, [7, 8, 9, 10]), (11, []), (12, []), (13, []), (14, [])]
def oTDNtA26_5 : List (Nat × List Nat) := [(0, []), (1, []), (2, [0, 1]), (3, [0, 1, 2]), (4, [0, 1, 2]), (5, [0, 1]), (6, [0, 1]), (7, [0, 1, 2, 3, 4, 5, 6]), (8, [0, 1, 2, 3, 4, 5, 6]), (9, [0, 1]), (10, [0, 1, 2, 3, 4, 5, 6, 7, 8, 9]), (11, [0, 1, 2, 3, 4, 5, 6, 7, 8, 9]), (12, [0, 1]), (13, []), (14, []), (15, [])]
structure Ntr where
 name : Int
 pay : Int
 step : Int
 late : Int
def ntrF : Ntr → List DV := fun r => [.int .i64 r.name, .int .i64 r.pay, .int .i64 r.step, .int .i64 r.late]
structure Ntc where
 key : List UInt8
 plate : List UInt8
 tm : Int
 came : Int
 cents : Int
def ntcF : Ntc → List DV := fun n => [.str n.key, .str n.plate, .int .i64 n.tm, .int .i64 n.came, .int .i64 n.cents]
def ntc0 : Ntc := ⟨[], [], 0, 0, 0⟩
abbrev ntcs (l : List Ntc) : DV := seqD 5 ntcF ntc0 l
def ntrE (r : Ntr) : Int := if (0 ≤ r.name ∧ r.name ≤ 4000) ∧ (0 ≤ r.pay ∧ r.pay ≤ 4000) ∧ (1 ≤ r.step ∧ r.step ≤ 4000) ∧ (0 ≤ r.late ∧ r.late ≤ 1000000) then 0 else 1
def ntcE (l : List Ntc) (i : Nat) : Int :=
 if isKeyB (l.getD i ntc0).key = false then 5 else if 0 < i ∧ strLe (l.getD i ntc0).key (l.getD (i - 1) ntc0).key = true then 7 else if isPlateB (l.getD i ntc0).plate = false then 3
 else if ¬ ((0 ≤ (l.getD i ntc0).tm ∧ (l.getD i ntc0).tm ≤ (l.getD i ntc0).came) ∧ (0 ≤ (l.getD i ntc0).came ∧ (l.getD i ntc0).came ≤ 5761439) ∧ (0 ≤ (l.getD i ntc0).cents ∧ (l.getD i ntc0).cents ≤ 1000000)) then 1 else 0
def ntcsE (l : List Ntc) : Int := if 200 < l.length then 2 else firstAt (ntcE l) l.length
def ntK (n : Ntc) : Prop := n.key.length ≤ 2^40 ∧ n.plate.length ≤ 2^40
def ntOk (l : List Ntc) : Prop := l.length ≤ 2^40 ∧ ∀ x ∈ l, ntK x
theorem sNtRules (r : Ntr) : FSpec Tryz.prog 19 [.agg ((ntrF r).map .d)] [] (fun x o => x = .d (.int .i64 (ntrE r)) ∧ o = []) := by
 refine spec_of hT (C := []) Tryz.func19 rfl Tryz.call19 rfl rfl rfl ?_
 conv => whnf
 repeat' (first | (refine CallX.exact (s119 _ _ _) rfl rfl ?_; rotate_right; conv => whnf) | (refine CallX.exact (s107 _ _) rfl rfl ?_; rotate_right; conv => whnf) | (refine br_intro ?_ ?_ <;> intro hb <;> (try simp only [brs] at hb) <;> conv => whnf) | omega | (refine And.intro ?_ ?_; ((try dsimp only); first | omega | (refine szA rfl ?_; omega) | (refine szB rfl ?_; omega) | (unfold inI64; omega) | exact rfl | (simp only [lns] at *; omega) | decide | (unfold inI64; decide)); conv => whnf) | decide | assumption)
 all_goals
  refine .ret _ ?_
  conv => whnf
  refine ⟨[], ⟨?_, rfl⟩, trivial⟩
  conv => lhs; whnf
  congr 2
  unfold ntrE; grind
theorem sMoment (n : Int) : FSpec Tryz.prog 92 [.d (.int .i64 n)] [] (fun x o => x = .d (.int .i64 (if 0 ≤ n ∧ n ≤ 5761439 then 0 else 1)) ∧ o = []) := by
 refine spec_of hT (C := []) Tryz.func92 rfl Tryz.call92 rfl rfl rfl ?_
 conv => whnf
 repeat' (first | (refine CallX.exact (s154 _) rfl rfl ?_; rotate_right; conv => whnf) | (refine CallX.exact (s107 _ _) rfl rfl ?_; rotate_right; conv => whnf) | (refine br_intro ?_ ?_ <;> intro hb <;> (try simp only [brs] at hb) <;> conv => whnf) | omega | (refine And.intro ?_ ?_; ((try dsimp only); first | omega | (refine szA rfl ?_; omega) | (refine szB rfl ?_; omega) | (unfold inI64; omega) | exact rfl | (simp only [lns] at *; omega) | decide | (unfold inI64; decide)); conv => whnf) | decide | assumption)
 refine .ret _ ?_
 conv => whnf
 refine ⟨[], ⟨?_, rfl⟩, trivial⟩
 conv => lhs; whnf
 congr 2
 grind
theorem sNotices (l : List Ntc) (hk : ntOk l) : FSpec Tryz.prog 18 [.d (ntcs l)] [] (fun x r => x = .d (.int .i64 (ntcsE l)) ∧ r = []) := by
 refine spec_of hT (C := []) Tryz.func18 rfl Tryz.call18 rfl rfl rfl ?_
 conv => whnf
 refine br_intro (fun h0 => ?_) (fun h0 => ?_)
 · simp at h0
   conv => whnf
   refine .ret _ ?_
   conv => whnf
   refine ⟨[], ⟨?_, rfl⟩, trivial⟩
   conv => lhs; whnf
   unfold ntcsE; rw [if_pos (by omega)]
 simp at h0
 conv => whnf
 refine LoopX.rule hT (C := []) (ι := Nat) (fun i => i ≤ l.length ∧ ∀ j, j < i → ntcE l j = 0) (fun i => mkSt [(0, .d (ntcs l)), (8, .d (ntcs l)), (9, .d (.int .i64 l.length)), (10, .d (.int .i64 i))] []) (fun i => l.length - i) 0 ⟨by omega, by omega⟩ (by (refine Entails.mk' [] rfl rfl ?_ ?_ <;> repeat' (first | exact True.intro | exact lr | exact rr | exact SV.le_int (by omega) | exact SV.le_any _ | refine And.intro ?_ ?_)); done) ?_
 rintro i ⟨p1, p2⟩
 have hx : (i : Int) < l.length → ntK (l.getD (i : Int).toNat ntc0) := fun hi => hk.2 _ (getD_mem (by omega))
 have e1 : (i : Int).toNat = i := Int.toNat_natCast i
 have hbad : ∀ e : Int, i < l.length → e ≠ 0 → ntcE l i = e → ntcsE l = e := fun e h h1 h2 => by
  unfold ntcsE; rw [if_neg (by omega)]
  exact firstAt_eq h p2 h1 h2
 conv => whnf
 repeat' (first | (refine CallX.exact (s108 _ (hx (by omega)).1) rfl rfl ?_; rotate_right; conv => whnf) | (refine CallX.exact (s185 _ (hx (by omega)).2) rfl rfl ?_; rotate_right; conv => whnf) | (refine CallX.exact (s119 _ _ _) rfl rfl ?_; rotate_right; conv => whnf) | (refine CallX.exact (s154 _) rfl rfl ?_; rotate_right; conv => whnf) | (refine br_intro ?_ ?_ <;> intro hb <;> (try simp only [brs] at hb) <;> conv => whnf) | (refine RegX.rule (id := 8) hT rfl [] oTDNtA18_8 (by decide +kernel) ?_; conv => whnf) | omega | (refine And.intro ?_ ?_; ((try dsimp only); first | omega | (refine szA rfl ?_; omega) | (refine szB rfl ?_; omega) | (unfold inI64; omega) | exact rfl | (simp only [lns] at *; omega) | decide | (unfold inI64; decide)); conv => whnf) | decide | assumption)
 all_goals first
  | (refine ⟨i + 1, ⟨by omega, first_step p2 (by clear p2 hbad hk hx; simp only [e1, toNat_pred] at *; unfold ntcE strLe; grind)⟩, by omega, (by (refine Entails.mk' [] rfl rfl ?_ ?_ <;> repeat' (first | exact True.intro | exact lr | exact rr | exact SV.le_int (by omega) | exact SV.le_any _ | refine And.intro ?_ ?_)); done)⟩)
  | (refine .ret _ ?_
     conv => whnf
     refine ⟨[], ⟨?_, rfl⟩, trivial⟩
     conv => lhs; whnf
     congr 2
     first
      | exact (hbad _ (by omega) (by decide) (by clear p2 hbad hk hx; simp only [e1, toNat_pred] at *; unfold ntcE strLe; grind)).symm
      | (have : i = l.length := by omega
         subst this
         unfold ntcsE; rw [if_neg (by omega), firstAt_zero p2]))
def dueE (r : Ntr) (n : Ntc) (t : Int) : Int := firstE [ntrE r, ntcsE [n], if 0 ≤ t ∧ t ≤ 5761439 then 0 else 1, if t < n.came then 11 else 0]
def dueO (r : Ntr) (n : Ntc) (t : Int) : Int := (max 0 (t.tdiv 1440 - n.came.tdiv 1440 - r.pay) + r.step - 1).tdiv r.step
def dueV (r : Ntr) (n : Ntc) (t : Int) : Int := n.cents + dueO r n t * r.late
theorem ntc_one {n : Ntc} (h : ntcsE [n] = 0) : isKeyB n.key = true ∧ isPlateB n.plate = true ∧ (0 ≤ n.tm ∧ n.tm ≤ n.came) ∧ (0 ≤ n.came ∧ n.came ≤ 5761439) ∧ (0 ≤ n.cents ∧ n.cents ≤ 1000000) := by
 have h : ntcE [n] 0 = 0 := by simpa [ntcsE, firstAt] using h
 unfold ntcE at h
 simp only [List.getD_cons_zero] at h
 grind
theorem ntr_zero {r : Ntr} (h : ntrE r = 0) : (0 ≤ r.name ∧ r.name ≤ 4000) ∧ (0 ≤ r.pay ∧ r.pay ≤ 4000) ∧ (1 ≤ r.step ∧ r.step ≤ 4000) ∧ (0 ≤ r.late ∧ r.late ≤ 1000000) := by unfold ntrE at h; grind
theorem dueE_zero {r : Ntr} {n : Ntc} {t : Int} (h : dueE r n t = 0) : ntrE r = 0 ∧ ntcsE [n] = 0 ∧ (0 ≤ t ∧ t ≤ 5761439) ∧ n.came ≤ t := by
 unfold dueE at h
 simp only [firstE] at h
 grind
theorem mul_bd {a b A B : Int} (h0 : 0 ≤ a) (h1 : a ≤ A) (h2 : 0 ≤ b) (h3 : b ≤ B) : 0 ≤ a * b ∧ a * b ≤ A * B :=
 ⟨Int.mul_nonneg h0 h2, Int.mul_le_mul h1 h3 h2 (by omega)⟩
theorem tdiv_bd {a b : Int} (h0 : 0 ≤ a) (h1 : 1 ≤ b) : 0 ≤ a.tdiv b ∧ a.tdiv b ≤ a := by
 refine ⟨Int.tdiv_nonneg h0 (by omega), ?_⟩
 have h4 := Int.tmod_add_mul_tdiv a b
 have h2 : 0 ≤ a.tmod b := Int.tmod_nonneg _ h0
 have h5 : a.tdiv b * 1 ≤ a.tdiv b * b := Int.mul_le_mul_of_nonneg_left h1 (Int.tdiv_nonneg h0 (by omega))
 rw [Int.mul_comm] at h4
 omega
theorem dueO_bd {r : Ntr} {n : Ntc} {t : Int} (h1 : ntrE r = 0) (hc : 0 ≤ n.came) (ht : n.came ≤ t) (ht2 : t ≤ 5761439) : 0 ≤ dueO r n t ∧ dueO r n t ≤ 10000 := by
 obtain ⟨_, h2, h3, _⟩ := ntr_zero h1
 unfold dueO
 have a1 := tdiv_bd (a := t) (b := 1440) (by omega) (by omega)
 have a2 := tdiv_bd (a := n.came) (b := 1440) (by omega) (by omega)
 have h4 := Int.tmod_add_mul_tdiv t 1440
 have h5 : 0 ≤ t.tmod 1440 := Int.tmod_nonneg _ (by omega)
 obtain ⟨q, hq⟩ : ∃ q, q = max 0 (t.tdiv 1440 - n.came.tdiv 1440 - r.pay) + r.step - 1 := ⟨_, rfl⟩
 have hq0 : 0 ≤ q ∧ q ≤ 10000 := by omega
 rw [← hq]
 have := tdiv_bd hq0.1 h3.1
 omega
def dueW (r : Ntr) (n : Ntc) (t : Int) : SV := if dueE r n t = 0 then .tup [.d (.int .i64 (dueV r n t)), .d (.int .i64 0)] else .tup [.d (.int .i64 0), .d (.int .i64 (dueE r n t))]
theorem ntOk_one {n : Ntc} (h : ntK n) : ntOk [n] := ⟨by simp, fun x hx => by rw [List.mem_singleton] at hx; rw [hx]; exact h⟩
theorem sDue (r : Ntr) (n : Ntc) (t : Int) (hn : ntK n) : FSpec Tryz.prog 26 [.agg ((ntrF r).map .d), .agg ((ntcF n).map .d), .d (.int .i64 t)] [] (fun x o => x = dueW r n t ∧ o = []) := by
 have h105 := s105 [ntrE r, ntcsE [n], if 0 ≤ t ∧ t ≤ 5761439 then 0 else 1, if decide (t < n.came) = true then 11 else 0] (by simp)
 have hE : firstE [ntrE r, ntcsE [n], if 0 ≤ t ∧ t ≤ 5761439 then 0 else 1, if decide (t < n.came) = true then 11 else 0] = dueE r n t := by
  unfold dueE; simp only [decide_eq_true_eq]
 rw [hE] at h105
 unfold dueW
 by_cases hz : dueE r n t = 0
 · rw [if_pos hz]
   rw [hz] at h105
   obtain ⟨h1, h2, h3, h4⟩ := dueE_zero hz
   obtain ⟨_, _, _, h5, h6⟩ := ntc_one h2
   obtain ⟨_, h7, h8, h9⟩ := ntr_zero h1
   have hO := dueO_bd h1 h5.1 h4 h3.2
   have hM := mul_bd hO.1 hO.2 h9.1 h9.2
   have a1 := tdiv_bd (a := t) (b := 1440) (by omega) (by omega)
   have a2 := tdiv_bd (a := n.came) (b := 1440) (by omega) (by omega)
   have hM1 : inI64 (dueO r n t * r.late) := by unfold inI64; omega
   have hM2 : inI64 (dueV r n t) := by unfold dueV inI64; omega
   have hq : inI64 (max 0 (t.tdiv 1440 - n.came.tdiv 1440 - r.pay) + r.step) := by unfold inI64; omega
   have hq2 : inI64 (max 0 (t.tdiv 1440 - n.came.tdiv 1440 - r.pay) + r.step - 1) := by unfold inI64; omega
   have hq3 : inI64 (dueO r n t) := by unfold inI64; omega
   refine spec_of hT (C := []) Tryz.func26 rfl Tryz.call26 rfl rfl rfl ?_
   conv => whnf
   repeat' (first | (refine CallX.exact (sNtRules r) rfl rfl ?_; rotate_right; conv => whnf) | (refine CallX.pure (sNotices [n] (ntOk_one hn)) ⟨SV.le_lit (by rfl) (by rfl), trivial⟩ rfl ?_; conv => whnf) | (refine CallX.exact (sMoment t) rfl rfl ?_; rotate_right; conv => whnf) | (refine CallX.exact (s107 _ _) rfl rfl ?_; rotate_right; conv => whnf) | (refine CallX.pure h105 ⟨SV.le_lit (by rfl) (by rfl), trivial⟩ rfl ?_; conv => whnf) | (refine And.intro hq ?_; conv => whnf) | (refine And.intro hq2 ?_; conv => whnf) | (refine And.intro hq3 ?_; conv => whnf) | (refine And.intro hM1 ?_; conv => whnf) | (refine And.intro hM2 ?_; conv => whnf) | (refine br_intro ?_ ?_ <;> intro hb <;> (try simp only [brs] at hb) <;> conv => whnf) | (refine RegX.rule (id := 1) hT rfl [] oTDNtA26_1 (by decide +kernel) ?_; conv => whnf) | (refine RegX.rule (id := 5) hT rfl [] oTDNtA26_5 (by decide +kernel) ?_; conv => whnf) | omega | (refine And.intro ?_ ?_; ((try dsimp only); first | omega | (refine szA rfl ?_; omega) | (refine szB rfl ?_; omega) | (unfold inI64; omega) | exact rfl | (simp only [lns] at *; omega) | decide | (unfold inI64; decide)); conv => whnf) | decide | assumption)
   refine .ret _ ?_
   conv => whnf
   refine ⟨[], ⟨congrArg SV.tup ?_, rfl⟩, trivial⟩
   repeat' (refine cons_eq ?_ ?_)
   all_goals (conv => lhs; whnf)
   all_goals try (with_reducible rfl)
   all_goals rfl
 · rw [if_neg hz]
   generalize dueE r n t = e at h105 hz
   refine spec_of hT (C := []) Tryz.func26 rfl Tryz.call26 rfl rfl rfl ?_
   conv => whnf
   repeat' (first | (refine CallX.exact (sNtRules r) rfl rfl ?_; rotate_right; conv => whnf) | (refine CallX.pure (sNotices [n] (ntOk_one hn)) ⟨SV.le_lit (by rfl) (by rfl), trivial⟩ rfl ?_; conv => whnf) | (refine CallX.exact (sMoment t) rfl rfl ?_; rotate_right; conv => whnf) | (refine CallX.exact (s107 _ _) rfl rfl ?_; rotate_right; conv => whnf) | (refine CallX.pure h105 ⟨SV.le_lit (by rfl) (by rfl), trivial⟩ rfl ?_; conv => whnf) | (refine br_intro ?_ ?_ <;> intro hb <;> (try simp only [brs] at hb) <;> conv => whnf) | (refine RegX.rule (id := 1) hT rfl [] oTDNtA26_1 (by decide +kernel) ?_; conv => whnf) | (refine RegX.rule (id := 5) hT rfl [] oTDNtA26_5 (by decide +kernel) ?_; conv => whnf) | omega | (refine And.intro ?_ ?_; ((try dsimp only); first | omega | (refine szA rfl ?_; omega) | (refine szB rfl ?_; omega) | (unfold inI64; omega) | exact rfl | (simp only [lns] at *; omega) | decide | (unfold inI64; decide)); conv => whnf) | decide | assumption)
   refine .ret _ ?_
   conv => whnf
   refine ⟨[], ⟨congrArg SV.tup ?_, rfl⟩, trivial⟩
   repeat' (refine cons_eq ?_ ?_)
   all_goals (conv => lhs; whnf)
   all_goals try (with_reducible rfl)
   all_goals rfl
end Go.Proofs.YtcjfniddeibbhaaGreatDoor
namespace Go.Eng
open Go
theorem RowIn.fro {G G' : Hp} {w : World} {e k n : Nat} {v : Value} {get : Nat → List DV} (h : RowIn G w e k v n get) (hle : G.le G') (hg : ∀ b o, blk v = some b → w.heap[b]? = some o → G' b = some o) : DV.Den G' (.ro k n get) v := by
 obtain ⟨xs, hown, hlen, hden⟩ := h
 rcases hown.2 with ⟨rfl, rfl⟩ | ⟨g, cap, cur, rfl, _, hh, hnc, hcm, hcs, htake⟩
 · exact .ronil _ _
 · refine .ro k n get _ cap (fun i j => xs.getD (i * k + j) Go.undef) rfl hnc hcm hlen ?_ ?_
   · intro i j x hi hx
     obtain ⟨u, hu, _⟩ := hden i j x hi hx
     have hlt : i * k + j < n * k := by
      have := (List.getElem?_eq_some_iff.1 hx).1
      rw [hlen i hi] at this
      calc i * k + j < i * k + k := by omega
       _ = (i + 1) * k := by rw [Nat.add_mul, Nat.one_mul]
       _ ≤ n * k := Nat.mul_le_mul_right _ hi
     refine ⟨cur, e, (0, 0), ?_, ?_, ?_⟩
     · rw [Addr.add_block]; exact hg g _ rfl hh
     · exact Addr.add_spot _ rfl _
     · rw [Addr.add_lit]
       simp only [Nat.zero_add]
       rw [← htake, List.getElem?_take_of_lt hlt] at hu
       rw [← Array.getElem?_toList, hu]
       rw [← htake, List.getD_eq_getElem?_getD, List.getElem?_take_of_lt hlt, hu]
       rfl
   · intro i j x hi hx
     obtain ⟨u, hu, hdu⟩ := hden i j x hi hx
     simp only [List.getD_eq_getElem?_getD, hu, Option.getD_some]
     exact hdu.mono hle
theorem app_res (s : St) (d : Nat) (r : Res) (x : Nat) : (s.app ⟨none, .any, [(d, some r)], []⟩).res x = if x = d then some r else s.res x := by
 simp only [St.app, putR_apply, lookR]
 by_cases e : x = d
 · subst e; simp
 · rw [nbeq_ne e]; simp [e]
theorem Entails.toR {s : St} (d e k : Nat) {kk : KK} {zr : List DV} {val : List DV → List DV} (hd : s.res d = some (.map false false [kk] zr (fun _ => false) val)) (hk : 0 < k) :
 Entails s (s.app ⟨none, .any, [(d, some (.mapR kk e k (fun _ => false) (fun _ => 0) (fun _ _ => []) none))], []⟩) := by
 refine ⟨fun A a w => ?_⟩
 rintro ⟨h0, G, β, h⟩
 refine ⟨h0, G, β, ?_⟩
 obtain ⟨r, es, clock, l, hb, hh, hl, hw, hI, hf⟩ := h.rs _ _ hd
 have hnil : l = [] := by
  cases l with
  | nil => rfl
  | cons p l =>
    have h1 := find_self hI hw (p := p) (by simp)
    have h2 := hf p.1 (hw p (by simp))
    rw [h1] at h2
    cases h2.1
 subst hnil
 refine h.changeG hd rfl hb rfl rfl rfl rfl (fun _ _ => rfl) (fun b hx => ?_) ⟨r, es, clock, [], hb, hh, hl, hw, hI, hk, fun key hk' => ⟨rfl, rfl⟩, ⟨fun i j p q b e1 => by simp at e1, fun p hp => by cases hp⟩, fun p hp => by cases hp⟩
 rcases hx with q | ⟨hq, q1, q2⟩
 · exact .of q
 · cases q1
   obtain ⟨p, hp, _⟩ := (entry_blk hh hl hw (fun _ h => by cases h)).1 q2
   cases hp
theorem Entails.froR {s : St} (d : Nat) {kk : KK} {e k : Nat} {has : List DV → Bool} {len : List DV → Nat} {get : List DV → Nat → List DV} (hd : s.res d = some (.mapR kk e k has len get none)) :
 Entails s (s.app ⟨none, .any, [(d, some (.map false false [kk] [.nilsl] has (fun q => bif has q then [.ro k (len q) (get q)] else [.nilsl])))], []⟩) := by
 refine ⟨fun A a w => ?_⟩
 rintro ⟨h0, G, β, h⟩
 obtain ⟨r, es, clock, l, hb, hh, hl, hw, hI, hk0, hR, hA, _⟩ := h.rs _ _ hd
 have hent : ∀ p ∈ l, ∀ b, blk p.2 = some b → Blks w (.mapR kk e k has len get none) (.map (some r)) b := fun p hp b hpb => .inr ⟨none, rfl, (entry_blk hh hl hw (fun _ h => by cases h)).2 ⟨p, hp, by simp, hpb⟩⟩
 have hdec : ∀ b, Decidable (∃ p ∈ l, blk p.2 = some b) := fun _ => Classical.propDecidable _
 let G' : Hp := fun b => if ∃ p ∈ l, blk p.2 = some b then w.heap[b]? else G b
 have hG1 : ∀ b, (∃ p ∈ l, blk p.2 = some b) → G' b = w.heap[b]? := fun b hx => by simp only [G']; rw [if_pos hx]
 have hG2 : ∀ b, (¬ ∃ p ∈ l, blk p.2 = some b) → G' b = G b := fun b hx => by simp only [G']; rw [if_neg hx]
 have hle : G.le G' := by
  intro b o hg
  rw [hG2 b]
  · exact hg
  · rintro ⟨p, hp, hpb⟩
    rw [(h.og d _ _ b hd rfl hb (hent p hp b hpb)).1] at hg; cases hg
 refine ⟨h0, G', β, h.sz, fun b o e => hle _ _ (h.g0 b o e), h.e0, fun b o hg => ?_, fun b o hg => ?_, h.keep, fun i => (h.tm i).mono hle (Env.le_refl β), fun x r' hx => ?_, fun x x' r1 r2 v1 v2 b e1 e2 o1 o2 f1 f2 b1 b2 => ?_, fun x r1 v1 b hx ho1 hv1 hb1 => ?_, h.sc⟩
 · by_cases q : ∃ p ∈ l, blk p.2 = some b
   · rw [hG1 b q] at hg; exact hg
   · rw [hG2 b q] at hg; exact h.gw _ _ hg
 · by_cases q : ∃ p ∈ l, blk p.2 = some b
   · obtain ⟨p, hp, hpb⟩ := q
     exact .inr (h.og d _ _ b hd rfl hb (hent p hp b hpb)).2
   · rw [hG2 b q] at hg; exact h.gn _ _ hg
 · rw [app_res] at hx
   split at hx
   · rename_i q; subst q; cases hx
     refine ⟨r, es, clock, l, hb, hh, hl, hw, hI, fun key hk => ?_⟩
     have h0 := hR key hk
     cases hf : l.find? (fun q => keyEq key q.1) with
     | none => rw [hf] at h0; exact ⟨h0.1, by simp [h0.1]⟩
     | some p =>
       rw [hf] at h0
       refine ⟨h0.1, .ro k (len key) (get key), by simp [h0.1], ?_⟩
       exact (h0.2 (by simp)).fro hle (fun b o hpb ho => by rw [hG1 b ⟨p, List.mem_of_find?_eq_some hf, hpb⟩]; exact ho)
   · exact (h.rs x r' hx).keep hle (Env.le_refl β) (fun _ _ _ _ _ => rfl)
 · rw [app_res] at e1 e2
   split at e1
   · rename_i q; subst q; cases e1
     have c1 : Blks w (.mapR kk e k has len get none) v1 b := .of (b1.plain rfl)
     split at e2
     · rename_i q; exact q.symm
     · exact h.dj x x' _ r2 v1 v2 b hd e2 rfl o2 f1 f2 c1 b2
   · split at e2
     · rename_i q; subst q; cases e2
       exact h.dj x x' r1 _ v1 v2 b e1 hd o1 rfl f1 f2 b1 (.of (b2.plain rfl))
     · exact h.dj x x' r1 r2 v1 v2 b e1 e2 o1 o2 f1 f2 b1 b2
 · rw [app_res] at hx
   split at hx
   · rename_i q; subst q; cases hx
     rw [hb] at hv1; cases hv1
     have := hb1.plain rfl
     cases this
     obtain ⟨g1, g2⟩ := h.og x _ _ r hd rfl hb (.of rfl)
     refine ⟨?_, g2⟩
     rw [hG2]
     · exact g1
     · rintro ⟨p, hp, hpb⟩; exact hA.2 p hp (by simp) hpb
   · rename_i hne
     obtain ⟨g1, g2⟩ := h.og x r1 v1 b hx ho1 hv1 hb1
     refine ⟨?_, g2⟩
     rw [hG2]
     · exact g1
     · rintro ⟨p, hp, hpb⟩
       exact hne (h.dj x d r1 _ v1 _ b hx hd ho1 rfl hv1 hb hb1 (hent p hp b hpb))
end Go.Eng
namespace Go.Eng
open Go
theorem ro_of_own {G : Hp} {w : World} {e k n : Nat} {get : Nat → List DV} {v : Value} {xs : List Value} (hown : w.ownsRow 0 e k v n xs) (hlen : ∀ i, i < n → (get i).length = k)
 (hden : ∀ i j x, i < n → (get i)[j]? = some x → ∃ u, xs[i * k + j]? = some u ∧ DV.Den G x u) (hgn : ∀ b, blk v = some b → G b = none) :
 ∃ G', G.le G' ∧ (∀ b o, G' b = some o → G b = some o ∨ (blk v = some b ∧ w.heap[b]? = some o)) ∧ DV.Den G' (.ro k n get) v := by
 rcases hown.2 with ⟨rfl, rfl⟩ | ⟨g, cap, cur, rfl, _, hg, hnc, hcm, hcs, htake⟩
 · exact ⟨G, Hp.le_refl G, fun b o e => .inl e, .ronil _ _⟩
 · have hle : G.le (G.add g (.cells cur e (0, 0))) := Hp.le_add (hgn g rfl)
   refine ⟨_, hle, ?_, ?_⟩
   · intro b o hb
     unfold Hp.add at hb
     split at hb
     · rename_i q; subst q; cases hb; exact .inr ⟨rfl, hg⟩
     · exact .inl hb
   · refine .ro k n get _ cap (fun i j => xs.getD (i * k + j) Go.undef) rfl hnc hcm hlen ?_ ?_
     · intro i j x hi hx
       obtain ⟨u, hu, _⟩ := hden i j x hi hx
       have hlt : i * k + j < n * k := by
        have := (List.getElem?_eq_some_iff.1 hx).1
        rw [hlen i hi] at this
        calc i * k + j < i * k + k := by omega
         _ = (i + 1) * k := by rw [Nat.add_mul, Nat.one_mul]
         _ ≤ n * k := Nat.mul_le_mul_right _ hi
       refine ⟨cur, e, (0, 0), ?_, ?_, ?_⟩
       · rw [Addr.add_block]; simp [Hp.add]
       · exact Addr.add_spot _ rfl _
       · rw [Addr.add_lit]
         simp only [Nat.zero_add]
         rw [← htake, List.getElem?_take_of_lt hlt] at hu
         rw [← Array.getElem?_toList, hu]
         rw [← htake, List.getD_eq_getElem?_getD, List.getElem?_take_of_lt hlt, hu]
         rfl
     · intro i j x hi hx
       obtain ⟨u, hu, hd⟩ := hden i j x hi hx
       rw [List.getD_eq_getElem?_getD, hu]
       exact hd.mono hle
def DV.flat : DV → Bool
 | .bool _ | .int .. | .str _ | .nilsl => true
 | _ => false
theorem DV.Den.flat {G G' : Hp} {x : DV} {v : Value} (h : DV.Den G x v) (hf : x.flat = true) : DV.Den G' x v := by
 cases h <;> first | (constructor; done) | (cases hf)
def SV.flat1 (d : Nat) : SV → Bool
 | .d x => x.flat
 | .buf c => !(Nat.beq c d)
 | _ => false
def SV.flat (d : Nat) : SV → Bool
 | .agg l => l.all (SV.flat1 d)
 | .tup l => l.all (SV.flat1 d)
 | x => SV.flat1 d x
theorem SV.Den.flat1 {G G' : Hp} {β β' : Env} {d : Nat} (hb : ∀ c, c ≠ d → β' c = β c) {x : SV} {v : Value} (h : SV.Den G β x v) (hf : SV.flat1 d x = true) : SV.Den G' β' x v := by
 cases h with
 | d x v hx => exact .d _ _ (hx.flat hf)
 | buf c v hv h1 =>
   refine .buf _ _ ?_ h1
   rw [hb c (by rintro rfl; simp [SV.flat1] at hf)]; exact hv
 | _ => cases hf
theorem SV.Den.flat {G G' : Hp} {β β' : Env} {d : Nat} (hb : ∀ c, c ≠ d → β' c = β c) {x : SV} {v : Value} (h : SV.Den G β x v) (hf : SV.flat d x = true) : SV.Den G' β' x v := by
 cases h with
 | agg l vs hl h =>
   refine .agg _ _ hl (fun i x v hx hv => (h i x v hx hv).flat1 hb ?_)
   exact List.all_eq_true.1 hf x (List.mem_of_getElem? hx)
 | tup l vs hl h =>
   refine .tup _ _ hl (fun i x v hx hv => (h i x v hx hv).flat1 hb ?_)
   exact List.all_eq_true.1 hf x (List.mem_of_getElem? hx)
 | d x v hx => exact (SV.Den.d (β := β) x v hx).flat1 (d := d) hb hf
 | buf c v hv h1 => exact (SV.Den.buf (G := G) c v hv h1).flat1 hb hf
 | _ => cases hf
def SV.nod1 (d : Nat) : SV → Bool
 | .d _ => true
 | .buf c => !(Nat.beq c d)
 | _ => false
def SV.nod (d : Nat) : SV → Bool
 | .agg l => l.all (SV.nod1 d)
 | x => SV.nod1 d x
theorem SV.Den.nod1 {G : Hp} {β β' : Env} {d : Nat} (hb : ∀ c, c ≠ d → β' c = β c) {x : SV} {v : Value} (h : SV.Den G β x v) (hf : SV.nod1 d x = true) : SV.Den G β' x v := by
 cases h with
 | d x v hx => exact .d _ _ hx
 | buf c v hv h1 =>
   refine .buf _ _ ?_ h1
   rw [hb c (by rintro rfl; simp [SV.nod1] at hf)]; exact hv
 | _ => cases hf
theorem SV.Den.nod {G : Hp} {β β' : Env} {d : Nat} (hb : ∀ c, c ≠ d → β' c = β c) {x : SV} {v : Value} (h : SV.Den G β x v) (hf : SV.nod d x = true) : SV.Den G β' x v := by
 cases h with
 | agg l vs hl h =>
   refine .agg _ _ hl (fun i x v hx hv => (h i x v hx hv).nod1 hb ?_)
   exact List.all_eq_true.1 hf x (List.mem_of_getElem? hx)
 | d x v hx => exact (SV.Den.d (β := β) x v hx).nod1 (d := d) hb hf
 | buf c v hv h1 => exact (SV.Den.buf (G := G) c v hv h1).nod1 hb hf
 | _ => cases hf
def Res.isBuf : Res → Prop
 | .buf .. => True
 | _ => False
def Res.flat : Res → Prop
 | .buf _ _ n g => ∀ i, i < n → (g i).all DV.flat = true
 | _ => False
theorem ResOk.flat {G G' : Hp} {β β' : Env} {w : World} {c : Nat} {r : Res} (hb : β' c = β c) (h : ResOk G β w c r) (hf : r.flat) : ResOk G' β' w c r := by
 cases r with
 | buf e k n g =>
   obtain ⟨v, xs, h1, h2, h3, h4, h5⟩ := h
   refine ⟨v, xs, hb.trans h1, h2, h3, h4, fun i j x hi hx => ?_⟩
   obtain ⟨u, hu, hd⟩ := h5 i j x hi hx
   exact ⟨u, hu, hd.flat (List.all_eq_true.1 (hf i hi) x (List.mem_of_getElem? hx))⟩
 | _ => exact hf.elim
theorem FSpec.lend {P : Program} {f : FuncId} {args : List SV} {rin : List (Nat × Res)} {post : SV → List (Nat × Res) → Prop} (d e kk n : Nat) (g : Nat → List DV)
 (h : FSpec P f (args.map (frz d kk n g)) rin post) (hd : lookL rin d = none) (hrin : ∀ c r, lookL rin c = some r → r.isBuf) (hn : (args.map (frz d kk n g)).all (SV.nod d) = true)
 (hf : ∀ x r, post x r → x.flat d = true ∧ (∀ c q, lookL r c = some q → q.flat) ∧ lookL r d = none) :
 FSpec P f args ((d, .buf e kk n g) :: rin) (fun x r => ∃ r0, post x r0 ∧ r = (d, .buf e kk n g) :: r0) := by
 refine ⟨h.enter, fun G β w vs hpre hvl hvd => ?_⟩
 have hR : ∀ (l : List (Nat × Res)) c, lookL ((d, Res.buf e kk n g) :: l) c = if c = d then some (.buf e kk n g) else lookL l c := by
  intro l c
  simp only [lookL]
  by_cases q : c = d
  · subst q; simp
  · rw [nbeq_ne q]; simp [q]
 have hdd : lookL ((d, Res.buf e kk n g) :: rin) d = some (.buf e kk n g) := by rw [hR]; simp
 have hne : ∀ {c r}, lookL rin c = some r → c ≠ d := by rintro c r q rfl; rw [hd] at q; cases q
 have hin : ∀ {c r}, lookL rin c = some r → lookL ((d, Res.buf e kk n g) :: rin) c = some r := by
  intro c r q; rw [hR, if_neg (hne q)]; exact q
 have hrd := hpre.rs d _ hdd
 obtain ⟨v, xs, hv, hown, hk, hlen, hden⟩ := hrd
 obtain ⟨G2, hle2, hg2, hro⟩ := ro_of_own (G := G) hown hlen hden (fun b hb => hpre.og d _ v b hdd rfl hv (.of hb))
 let β0 : Env := fun c => if c = d then none else β c
 have hb0 : ∀ c, c ≠ d → β0 c = β c := fun c q => by simp [β0, q]
 have hle0 : β0.le β := by
  intro c u hu
  by_cases q : c = d
  · subst q; simp [β0] at hu
  · rw [hb0 c q] at hu; exact hu
 have hpre2 : Pre G2 β0 w (lookL rin) := by
  refine ⟨fun b o q => ?_, fun c r q => ?_, fun c c' r r' v v' b e1 e2 o1 o2 f1 f2 b1 b2 => ?_, fun c r u b q o1 f1 b1 => ?_, fun c u q => ?_⟩
  · rcases hg2 b o q with p | p
    · exact hpre.gw b o p
    · exact p.2
  · have := hpre.rs c r (hin q)
    have k1 := this.keep (w' := w) hle2 (Env.le_refl β) (fun _ _ _ _ _ => rfl)
    have hc := hne q
    cases r with
    | buf e' k' n' g' => obtain ⟨v', xs', q1, q2⟩ := k1; exact ⟨v', xs', (hb0 c hc).trans q1, q2⟩
    | _ => exact (hrin c _ q).elim
  · exact hpre.dj c c' r r' v v' b (hin e1) (hin e2) o1 o2 (hle0 _ _ f1) (hle0 _ _ f2) b1 b2
  · have h1 := hpre.og c r u b (hin q) o1 (hle0 _ _ f1) b1
    cases hg : G2 b with
    | none => rfl
    | some o =>
      rcases hg2 b o hg with p | p
      · rw [h1] at p; cases p
      · exact absurd (hpre.dj c d r _ u v b (hin q) hdd o1 rfl (hle0 _ _ f1) hv b1 (.of p.1)) (hne q)
  · have hc : c ≠ d := by rintro rfl; simp [β0] at q
    obtain ⟨r, hr⟩ := hpre.sc c u (hle0 _ _ q)
    rw [hR, if_neg hc] at hr
    exact ⟨r, hr⟩
 have hcall := h.calls G2 β0 w vs hpre2 (by simpa using hvl) (fun i y u hy hu => by
  have hall := List.all_eq_true.1 hn y (List.mem_of_getElem? hy)
  rw [List.getElem?_map] at hy
  cases hx : args[i]? with
  | none => rw [hx] at hy; cases hy
  | some x =>
    rw [hx] at hy
    simp only [Option.map_some, Option.some.injEq] at hy
    subst hy
    exact (frz_den ⟨v, hv, hro⟩ ((hvd i x u hx hu).mono hle2 (Env.le_refl β))).nod hb0 hall)
 have hsub : ∀ b, Tin w β0 (lookL rin) b → Tin w β (lookL ((d, Res.buf e kk n g) :: rin)) b := by
  rintro b ⟨c, r, u, e1, o1, f1, b1⟩
  exact ⟨c, r, u, hin e1, o1, hle0 _ _ f1, b1⟩
 have hnT : ∀ b, blk v = some b → ¬ Tin w β0 (lookL rin) b := by
  rintro b hb ⟨c, r, u, e1, o1, f1, b1⟩
  exact hne e1 (hpre.dj c d r _ u v b (hin e1) hdd o1 rfl (hle0 _ _ f1) hv b1 (.of hb))
 have hlt : ∀ b, blk v = some b → b < w.heap.size := fun b hb => (hpre.rs d _ hdd).lt rfl hv (.of hb)
 refine hcall.mono ?_
 rintro ex w' ⟨u, x, rout, G', β', he, hpost, ho, hx⟩
 obtain ⟨f1, f2, f3⟩ := hf x rout hpost
 let β'' : Env := fun c => if c = d then β d else β' c
 have hb2 : ∀ c, c ≠ d → β'' c = β' c := fun c q => by simp [β'', q]
 have hbd : β'' d = β d := by simp [β'']
 have hne' : ∀ {c r}, lookL ((d, Res.buf e kk n g) :: rout) c = some r → c ≠ d → lookL rout c = some r := by
  intro c r q hc; rw [hR, if_neg hc] at q; exact q
 have hrd' : ∀ {r}, lookL ((d, Res.buf e kk n g) :: rout) d = some r → r = .buf e kk n g := by
  intro r q; rw [hR, if_pos rfl] at q; cases q; rfl
 have hele : β.le β'' := by
  intro c u hu
  by_cases q : c = d
  · subst q; rw [hbd]; exact hu
  · rw [hb2 c q]; exact ho.ele c u (by rw [hb0 c q]; exact hu)
 refine ⟨u, x, (d, .buf e kk n g) :: rout, G, β'', he, ⟨rout, hpost, rfl⟩, ⟨Hp.le_refl G, hele, fun b o q => ho.gw b o (ho.gle b o (hle2 b o q)), fun b o q => .inl q, ?_, fun c r q => ?_, ?_, ?_⟩, hx.flat hb2 f1⟩
 · exact ⟨ho.keep.os, ho.keep.tape, ho.keep.output, ho.keep.size, fun b q1 q2 => ho.keep.block b q1 (fun q3 => q2 (hsub b q3))⟩
 · by_cases hc : c = d
   · subst hc
     rw [hrd' q]
     exact (hpre.rs c _ hdd).keep (Hp.le_refl G) hele (fun _ u b hu hb => by
      rw [hv] at hu; cases hu
      have hb := hb.plain rfl
      exact ho.keep.block b (hlt b hb) (hnT b hb))
   · exact (ho.rs c r (hne' q hc)).flat (hb2 c hc) (f2 c r (hne' q hc))
 · intro c c' r r' u u' b e1 e2 o1 o2 g1 g2 b1 b2
   have key : ∀ {c r u}, c ≠ d → lookL rout c = some r → r.own = true → β'' c = some u → Blks w' r u b → ∀ {r' u'}, lookL ((d, Res.buf e kk n g) :: rout) d = some r' → β'' d = some u' → Blks w' r' u' b → False := by
    intro c r u hc e1 o1 g1 b1 r' u' e2 g2 b2
    rw [hbd, hv] at g2; cases g2
    have := hrd' e2; subst this
    have b2 := b2.plain rfl
    rw [hb2 c hc] at g1
    rcases (ho.og c r u b e1 o1 g1 b1).2 with q | q
    · exact hnT b b2 q
    · exact absurd (hlt b b2) (by omega)
   by_cases hc : c = d
   · by_cases hc' : c' = d
     · rw [hc, hc']
     · exact (key hc' (hne' e2 hc') o2 g2 b2 (hc ▸ e1) (hc ▸ g1) b1).elim
   · by_cases hc' : c' = d
     · exact (key hc (hne' e1 hc) o1 g1 b1 (hc' ▸ e2) (hc' ▸ g2) b2).elim
     · exact ho.dj c c' r r' u u' b (hne' e1 hc) (hne' e2 hc') o1 o2 (by rw [← hb2 c hc]; exact g1) (by rw [← hb2 c' hc']; exact g2) b1 b2
 · intro c r u b e1 o1 g1 b1
   by_cases hc : c = d
   · subst hc
     have := hrd' e1; subst this
     rw [hbd] at g1
     exact ⟨hpre.og c _ u b hdd rfl g1 (.of (b1.plain rfl)), .inl ⟨c, _, u, hdd, rfl, g1, .of (b1.plain rfl)⟩⟩
   · obtain ⟨q1, q2⟩ := ho.og c r u b (hne' e1 hc) o1 (by rw [← hb2 c hc]; exact g1) b1
     refine ⟨?_, q2.imp (hsub b) id⟩
     cases hg : G b with
     | none => rfl
     | some o => rw [ho.gle b o (hle2 b o hg)] at q1; cases q1
end Go.Eng
set_option maxRecDepth 20000
namespace Go.Proofs.YtcjfniddeibbhaaGreatDoor
open Go Go.Eng
structure Cls where
 key : List UInt8
 up : List UInt8
structure Veh where
 key : List UInt8
 cls : List UInt8
structure Sta where
 key : List UInt8
 h : Nat → Int
def clsF : Cls → List DV := fun c => [.str c.key, .str c.up]
def cls0 : Cls := ⟨[], []⟩
abbrev clss (l : List Cls) : DV := seqD 2 clsF cls0 l
def vehF : Veh → List DV := fun c => [.str c.key, .str c.cls]
def veh0 : Veh := ⟨[], []⟩
abbrev vehs (l : List Veh) : DV := seqD 2 vehF veh0 l
def pltF : Plt → List DV := fun p => [.int .i64 p.frm, .str p.veh, .str p.plt]
def plt0 : Plt := ⟨0, [], []⟩
abbrev plts (l : List Plt) : DV := seqD 3 pltF plt0 l
def staF : Sta → List DV := fun s => [.str s.key, .int .i64 (s.h 0), .int .i64 (s.h 1), .int .i64 (s.h 2), .int .i64 (s.h 3), .int .i64 (s.h 4), .int .i64 (s.h 5), .int .i64 (s.h 6), .int .i64 (s.h 7), .int .i64 (s.h 8), .int .i64 (s.h 9), .int .i64 (s.h 10), .int .i64 (s.h 11), .int .i64 (s.h 12), .int .i64 (s.h 13)]
def sta0 : Sta := ⟨[], fun _ => 0⟩
abbrev stas (l : List Sta) : DV := seqD 15 staF sta0 l
def clsK (c : Cls) : Prop := c.key.length ≤ 8 ∧ c.up.length ≤ 8
def vehK (c : Veh) : Prop := c.key.length ≤ 8 ∧ c.cls.length ≤ 8
def pltK (c : Plt) : Prop := (-2^40 ≤ c.frm ∧ c.frm ≤ 2^40) ∧ c.veh.length ≤ 8 ∧ c.plt.length ≤ 16
def staK (c : Sta) : Prop := c.key.length ≤ 8
def cls4 : List Cls := [⟨[98, 105, 103], []⟩, ⟨[109, 97, 120, 105], []⟩, ⟨[109, 105, 100, 105], []⟩, ⟨[109, 105, 110, 105], []⟩]
theorem sClss (n : Nat) (L : Nat → Int) (hL : Rok n L) (a : Int) (h0 : 0 ≤ a) (ha : a ≤ 2^38) :
 FSpec Tryz.prog 136 [.ptr 1000000 0] [(1000000, strm n L a)] (fun y r => ∃ l : List Cls, ∃ b, (l.length = 4 ∧ ∀ x ∈ l, clsK x) ∧ (a ≤ b ∧ b ≤ a + 8) ∧ y = .buf 9 ∧ r = [(9, seqB 201 2 clsF cls0 l), (1000000, strm n L b)]) := by
 refine spec_of hT (C := [9]) Tryz.func136 rfl Tryz.call136 rfl rfl rfl ?_
 conv => whnf
 refine LoopX.rule hT (C := []) (ι := Int × List Cls × Nat) (fun (b, l, i) => (a ≤ b ∧ b ≤ a + 2 * i) ∧ i ≤ 4 ∧ l.length = 4 ∧ ∀ x ∈ l, clsK x)
  (fun (b, l, i) => mkSt [(0, .ptr 1000000 0), (3, .buf 9), (11, .d (.int .i64 4)), (12, .d (.int .i64 i))] [(1000000, strm n L b), (9, seqB 201 2 clsF cls0 l)])
  (fun (_, _, i) => 4 - i) (a, cls4, 0) ⟨⟨by simp, by simp⟩, by simp, rfl, by intro x hx; simp only [cls4, List.mem_cons, List.not_mem_nil, or_false] at hx; rcases hx with rfl | rfl | rfl | rfl <;> exact ⟨by decide, by decide⟩⟩ ?_ ?_
 · exact Entails.mk' [(1000000, 1000000), (9, 9)] rfl rfl ⟨lr, lr, lr, lr, trivial⟩ ⟨rr, Res.le_lit rfl rfl, trivial⟩
 rintro ⟨b, l, i⟩ ⟨⟨p1, p2⟩, p3, p4, p5⟩
 have p1 : a ≤ b := p1
 have p2 : b ≤ a + 2 * i := p2
 have p3 : i ≤ 4 := p3
 have p4 : l.length = 4 := p4
 have e1 : (i : Int).toNat = i := Int.toNat_natCast i
 conv => whnf
 repeat' (first | (refine CallX.of (s84 n L hL _ ?_ ?_ 3 ?_) [(1000000, 1000000)] rfl ⟨lr, lr, trivial⟩ ⟨rr, trivial⟩ rfl rfl ?_; rotate_right; rintro x rout ⟨⟨w, rfl⟩, ⟨c, c1, c2, rfl⟩⟩; refine ⟨rfl, ?_⟩; conv => whnf) | (refine CallX.of (s86 n L hL _ ?_ ?_ _ ?_) [(1000000, 1000000)] rfl ⟨lr, lr, trivial⟩ ⟨rr, trivial⟩ rfl rfl ?_; rotate_right; rintro x rout ⟨⟨j, hj1, hj2, hj3, rfl⟩, ⟨c, c1, c2, rfl⟩⟩; refine ⟨rfl, ?_⟩; conv => whnf) | (refine br_intro ?_ ?_ <;> intro hb <;> (try simp only [brs] at hb) <;> conv => whnf) | omega | (refine And.intro ?_ ?_; ((try dsimp only); first | omega | (refine szA rfl ?_; omega) | (refine szB rfl ?_; omega) | (unfold inI64; omega) | exact rfl | (simp only [lns] at *; omega) | decide | (unfold inI64; decide)); conv => whnf) | decide | assumption)
 · have p5 : ∀ x ∈ l, clsK x := p5
   have hu : clsK (l.getD j.toNat cls0) := p5 _ (getD_mem (by omega))
   refine ⟨(c + 1, updL l i cls0 (fun y => { y with up := (l.getD j.toNat cls0).key }), i + 1), ⟨⟨by omega, by show _ ≤ a + 2 * ((i + 1 : Nat) : Int); omega⟩, by omega, by simpa using p4, (allK_upd (g := fun y : Cls => { y with up := (l.getD j.toNat cls0).key }) (k := 4) ⟨by omega, p5⟩ (fun y hy => ⟨hy.1, hu.1⟩)).2⟩, by show 4 - (i + 1) < 4 - i; omega,
    Entails.mk' [(1000000, 1000000), (9, 9)] rfl rfl ⟨lr, lr, lr, lr, trivial⟩ ⟨rr, ?_, trivial⟩⟩
   exact Res.le_upd (fun y : Cls => { y with up := (l.getD j.toNat cls0).key }) (fun _ => rfl)
 · exact ⟨(c, l, i + 1), ⟨⟨by omega, by show _ ≤ a + 2 * ((i + 1 : Nat) : Int); omega⟩, by omega, p4, p5⟩, by show 4 - (i + 1) < 4 - i; omega, (by (refine Entails.mk' [(1000000, 1000000), (9, 9)] rfl rfl ?_ ?_ <;> repeat' (first | exact True.intro | exact lr | exact rr | exact SV.le_int (by omega) | exact SV.le_any _ | refine And.intro ?_ ?_)); done)⟩
 · exact ⟨(b, l, i + 1), ⟨⟨p1, by show _ ≤ a + 2 * ((i + 1 : Nat) : Int); omega⟩, by omega, p4, p5⟩, by show 4 - (i + 1) < 4 - i; omega, (by (refine Entails.mk' [(1000000, 1000000), (9, 9)] rfl rfl ?_ ?_ <;> repeat' (first | exact True.intro | exact lr | exact rr | exact SV.le_int (by omega) | exact SV.le_any _ | refine And.intro ?_ ?_)); done)⟩
 · refine .ret _ ?_
   conv => whnf
   exact ⟨[(9, seqB 201 2 clsF cls0 l), (1000000, strm n L _)], ⟨l, b, ⟨p4, p5⟩, ⟨by omega, by omega⟩, rfl, rfl⟩, rr, rr, trivial⟩
def clsB (l : List Cls) : Prop := l.length ≤ 4 ∧ ∀ x ∈ l, clsK x
structure Slt where
 day : Int
 many : Int
structure Wnt where
 v : List UInt8
 fr : Int
 to : Int
def wn0 : Wnt := ⟨[], 0, 0⟩
structure Plc where
 v : List UInt8
 day : Int
def pl0 : Plc := ⟨[], 0⟩
structure Bsy where
 v : List UInt8
 fr : Int
 to : Int
 cents : Int
def namesB (w : List Wnt) (l : List Plc) : Prop := w.length = l.length ∧ ∀ i, i < w.length → (w.getD i wn0).v = (l.getD i pl0).v
instance (w : List Wnt) (l : List Plc) : Decidable (namesB w l) := inferInstanceAs (Decidable (_ ∧ _))
theorem getD_zeros (n i : Nat) : (List.replicate n (0 : Int)).getD i 0 = 0 := by
 rw [List.getD_eq_getElem?_getD, List.getElem?_replicate]; split <;> rfl
theorem Res.le_zeros {n : Nat} : Res.le (.buf 3 1 ((n : Nat) : Int).toNat fun _ => [cstD (.int .i64 0)]) (seqB 3 1 iF 0 (List.replicate n 0)) :=
 Res.le_buf (by simp) (fun i hi => by simp only [rowF, getD_zeros]; rfl)
def oTShG259_8 : List (Nat × List Nat) := [(0, []), (1, []), (2, []), (3, []), (4, []), (5, [3, 4]), (6, [3, 4, 5]), (7, [3, 4, 5]), (8, [3, 4]), (9, [3, 4]), (10, [3, 4]), (11, []), (12, []), (13, [])]
def oTShG260_10 : List (Nat × List Nat) := [(0, []), (1, []), (2, []), (3, []), (4, [3]), (5, [3]), (6, []), (7, []), (8, []), (9, [3, 4, 5, 6, 7, 8]), (10, [3, 4, 5, 6, 7, 8, 9]), (11, [3, 4, 5, 6, 7, 8, 9]), (12, [3, 4, 5, 6, 7, 8]), (13, [3, 4, 5, 6, 7, 8]), (14, [3, 4, 5, 6, 7, 8]), (15, [3, 4, 5, 6, 7, 8, 9, 10, 11, 12, 13, 14]), (16, [3, 4, 5, 6, 7, 8, 9, 10, 11, 12, 13, 14]), (17, [3, 4, 5, 6, 7, 8, 9, 10, 11, 12, 13, 14, 15, 16]), (18, [3, 4, 5, 6, 7, 8, 9, 10, 11, 12, 13, 14, 15, 16]), (19, []), (20, []), (21, []), (22, [])]
structure Ned where
 st : List UInt8
 many : Int
def ndF : Ned → List DV := fun s => [.str s.st, .int .i64 s.many]
def nd0 : Ned := ⟨[], 0⟩
abbrev neds (l : List Ned) : DV := seqD 2 ndF nd0 l
structure Roa where
 a : List UInt8
 b : List UInt8
 car : Int
 ride : Int
def rdF : Roa → List DV := fun s => [.str s.a, .str s.b, .int .i64 s.car, .int .i64 s.ride]
def rd0 : Roa := ⟨[], [], 0, 0⟩
abbrev roas (l : List Roa) : DV := seqD 4 rdF rd0 l
structure Mov where
 a : List UInt8
 b : List UInt8
 many : Int
def mvF : Mov → List DV := fun s => [.str s.a, .str s.b, .int .i64 s.many]
def mv0 : Mov := ⟨[], [], 0⟩
abbrev movs (l : List Mov) : DV := seqD 3 mvF mv0 l
def ndE (l : List Ned) (i : Nat) : Int :=
 let x := l.getD i nd0
 if isKeyB x.st = false then 5 else if 0 < i ∧ strLe x.st (l.getD (i - 1) nd0).st = true then 7 else if ¬ (-20 ≤ x.many ∧ x.many ≤ 20) then 1 else 0
def ndsE (l : List Ned) : Int := if 10 < l.length then 2 else firstAt (ndE l) l.length
def ndK (x : Ned) : Prop := x.st.length ≤ 2^40
def ndOk (l : List Ned) : Prop := l.length ≤ 2^40 ∧ ∀ x ∈ l, ndK x
def endsC (a b c d : List UInt8) : Int := firstE [cmpS a c, cmpS b d]
def rdE (l : List Roa) (i : Nat) : Int :=
 let x := l.getD i rd0
 if isKeyB x.a = false ∨ isKeyB x.b = false then 5 else if x.a = x.b then 14 else if 0 < i ∧ 0 ≤ endsC (l.getD (i - 1) rd0).a (l.getD (i - 1) rd0).b x.a x.b then 7 else if ¬ ((0 ≤ x.car ∧ x.car ≤ 1000000) ∧ (0 ≤ x.ride ∧ x.ride ≤ 1000000)) then 1 else 0
def rdsE (l : List Roa) : Int := if 2500 < l.length then 2 else firstAt (rdE l) l.length
def rdK (x : Roa) : Prop := x.a.length ≤ 2^40 ∧ x.b.length ≤ 2^40
def rdOk (l : List Roa) : Prop := l.length ≤ 2^40 ∧ ∀ x ∈ l, rdK x
theorem s204 (a b c d : List UInt8) : FSpec Tryz.prog 300 [.d (.str a), .d (.str b), .d (.str c), .d (.str d)] [] (fun x r => x = .d (.int .i64 (endsC a b c d)) ∧ r = []) := by
 refine spec_of hT (C := []) Tryz.func300 rfl Tryz.call300 rfl rfl rfl ?_
 conv => whnf
 repeat' (first | (refine CallX.exact (s184 _ _) rfl rfl ?_; rotate_right; conv => whnf) | (refine CallX.pure (s182 [_, _] (by simp)) ⟨SV.le_lit (by rfl) (by rfl), trivial⟩ rfl ?_; conv => whnf) | (refine br_intro ?_ ?_ <;> intro hb <;> (try simp only [brs] at hb) <;> conv => whnf) | omega | (refine And.intro ?_ ?_; ((try dsimp only); first | omega | (refine szA rfl ?_; omega) | (refine szB rfl ?_; omega) | (unfold inI64; omega) | exact rfl | (simp only [lns] at *; omega) | decide | (unfold inI64; decide)); conv => whnf) | decide | assumption)
 refine .ret _ ?_
 conv => whnf
 refine ⟨[], ⟨?_, rfl⟩, trivial⟩
 conv => lhs; whnf
 rfl
theorem s163 (l : List Ned) (hk : ndOk l) : FSpec Tryz.prog 259 [.d (neds l)] [] (fun x r => x = .d (.int .i64 (ndsE l)) ∧ r = []) := by
 refine spec_of hT (C := []) Tryz.func259 rfl Tryz.call259 rfl rfl rfl ?_
 conv => whnf
 refine br_intro (fun h0 => ?_) (fun h0 => ?_)
 · simp at h0
   conv => whnf
   refine .ret _ ?_
   conv => whnf
   refine ⟨[], ⟨?_, rfl⟩, trivial⟩
   conv => lhs; whnf
   unfold ndsE; rw [if_pos (by omega)]
 simp at h0
 conv => whnf
 refine LoopX.rule hT (C := []) (ι := Nat) (fun i => i ≤ l.length ∧ ∀ j, j < i → ndE l j = 0) (fun i => mkSt [(0, .d (neds l)), (8, .d (neds l)), (9, .d (.int .i64 l.length)), (10, .d (.int .i64 i))] []) (fun i => l.length - i) 0 ⟨by omega, by omega⟩ (by (refine Entails.mk' [] rfl rfl ?_ ?_ <;> repeat' (first | exact True.intro | exact lr | exact rr | exact SV.le_int (by omega) | exact SV.le_any _ | refine And.intro ?_ ?_)); done) ?_
 rintro i ⟨p1, p2⟩
 have hx : (i : Int) < l.length → ndK (l.getD (i : Int).toNat nd0) := fun hi => hk.2 _ (getD_mem (by omega))
 have e1 : (i : Int).toNat = i := Int.toNat_natCast i
 have hbad : ∀ e : Int, i < l.length → e ≠ 0 → ndE l i = e → ndsE l = e := fun e h h1 h2 => by
  unfold ndsE; rw [if_neg (by omega)]
  exact firstAt_eq h p2 h1 h2
 conv => whnf
 repeat' (first | (refine CallX.exact (s108 _ (hx (by omega))) rfl rfl ?_; rotate_right; conv => whnf) | (refine CallX.exact (s119 _ _ _) rfl rfl ?_; rotate_right; conv => whnf) | (refine br_intro ?_ ?_ <;> intro hb <;> (try simp only [brs] at hb) <;> conv => whnf) | (refine RegX.rule (id := 8) hT rfl [] oTShG259_8 (by decide +kernel) ?_; conv => whnf) | omega | (refine And.intro ?_ ?_; ((try dsimp only); first | omega | (refine szA rfl ?_; omega) | (refine szB rfl ?_; omega) | (unfold inI64; omega) | exact rfl | (simp only [lns] at *; omega) | decide | (unfold inI64; decide)); conv => whnf) | decide | assumption)
 all_goals first
  | (refine ⟨i + 1, ⟨by omega, first_step p2 (by clear p2 hbad hk hx; simp only [e1, toNat_pred] at *; unfold ndE strLe; grind)⟩, by omega, (by (refine Entails.mk' [] rfl rfl ?_ ?_ <;> repeat' (first | exact True.intro | exact lr | exact rr | exact SV.le_int (by omega) | exact SV.le_any _ | refine And.intro ?_ ?_)); done)⟩)
  | (refine .ret _ ?_
     conv => whnf
     refine ⟨[], ⟨?_, rfl⟩, trivial⟩
     conv => lhs; whnf
     congr 2
     first
      | exact (hbad _ (by omega) (by decide) (by clear p2 hbad hk hx; simp only [e1, toNat_pred] at *; unfold ndE strLe; grind)).symm
      | (have : i = l.length := by omega
         subst this
         unfold ndsE; rw [if_neg (by omega), firstAt_zero p2]))
theorem s164 (l : List Roa) (hk : rdOk l) : FSpec Tryz.prog 260 [.d (roas l)] [] (fun x r => x = .d (.int .i64 (rdsE l)) ∧ r = []) := by
 refine spec_of hT (C := []) Tryz.func260 rfl Tryz.call260 rfl rfl rfl ?_
 conv => whnf
 refine br_intro (fun h0 => ?_) (fun h0 => ?_)
 · simp at h0
   conv => whnf
   refine .ret _ ?_
   conv => whnf
   refine ⟨[], ⟨?_, rfl⟩, trivial⟩
   conv => lhs; whnf
   unfold rdsE; rw [if_pos (by omega)]
 simp at h0
 conv => whnf
 refine LoopX.rule hT (C := []) (ι := Nat) (fun i => i ≤ l.length ∧ ∀ j, j < i → rdE l j = 0) (fun i => mkSt [(0, .d (roas l)), (8, .d (roas l)), (9, .d (.int .i64 l.length)), (10, .d (.int .i64 i))] []) (fun i => l.length - i) 0 ⟨by omega, by omega⟩ (by (refine Entails.mk' [] rfl rfl ?_ ?_ <;> repeat' (first | exact True.intro | exact lr | exact rr | exact SV.le_int (by omega) | exact SV.le_any _ | refine And.intro ?_ ?_)); done) ?_
 rintro i ⟨p1, p2⟩
 have hx : (i : Int) < l.length → rdK (l.getD (i : Int).toNat rd0) := fun hi => hk.2 _ (getD_mem (by omega))
 have e1 : (i : Int).toNat = i := Int.toNat_natCast i
 have hbad : ∀ e : Int, i < l.length → e ≠ 0 → rdE l i = e → rdsE l = e := fun e h h1 h2 => by
  unfold rdsE; rw [if_neg (by omega)]
  exact firstAt_eq h p2 h1 h2
 conv => whnf
 repeat' (first | (refine CallX.exact (s108 _ (hx (by omega)).1) rfl rfl ?_; rotate_right; conv => whnf) | (refine CallX.exact (s108 _ (hx (by omega)).2) rfl rfl ?_; rotate_right; conv => whnf) | (refine CallX.exact (s204 _ _ _ _) rfl rfl ?_; rotate_right; conv => whnf) | (refine CallX.exact (s119 _ _ _) rfl rfl ?_; rotate_right; conv => whnf) | (refine br_intro ?_ ?_ <;> intro hb <;> (try simp only [brs] at hb) <;> conv => whnf) | (refine RegX.rule (id := 10) hT rfl [] oTShG260_10 (by decide +kernel) ?_; conv => whnf) | omega | (refine And.intro ?_ ?_; ((try dsimp only); first | omega | (refine szA rfl ?_; omega) | (refine szB rfl ?_; omega) | (unfold inI64; omega) | exact rfl | (simp only [lns] at *; omega) | decide | (unfold inI64; decide)); conv => whnf) | decide | assumption)
 all_goals first
  | (refine ⟨i + 1, ⟨by omega, first_step p2 (by clear p2 hbad hk hx; simp only [e1, toNat_pred] at *; unfold rdE ; grind)⟩, by omega, (by (refine Entails.mk' [] rfl rfl ?_ ?_ <;> repeat' (first | exact True.intro | exact lr | exact rr | exact SV.le_int (by omega) | exact SV.le_any _ | refine And.intro ?_ ?_)); done)⟩)
  | (refine .ret _ ?_
     conv => whnf
     refine ⟨[], ⟨?_, rfl⟩, trivial⟩
     conv => lhs; whnf
     congr 2
     first
      | exact (hbad _ (by omega) (by decide) (by clear p2 hbad hk hx; simp only [e1, toNat_pred] at *; unfold rdE ; grind)).symm
      | (have : i = l.length := by omega
         subst this
         unfold rdsE; rw [if_neg (by omega), firstAt_zero p2]))
theorem s113 (l : List Ned) (m : List Roa) (hl : ndOk l) (hm : rdOk m) : FSpec Tryz.prog 188 [.d (neds l), .d (roas m)] [] (fun x r => x = .d (.int .i64 (firstE [ndsE l, rdsE m])) ∧ r = []) := by
 refine spec_of hT (C := []) Tryz.func188 rfl Tryz.call188 rfl rfl rfl ?_
 conv => whnf
 repeat' (first | (refine CallX.exact (s163 l hl) rfl rfl ?_; rotate_right; conv => whnf) | (refine CallX.exact (s164 m hm) rfl rfl ?_; rotate_right; conv => whnf) | (refine CallX.pure (s105 [_, _] (by simp)) ⟨SV.le_lit (by rfl) (by rfl), trivial⟩ rfl ?_; conv => whnf) | (refine br_intro ?_ ?_ <;> intro hb <;> (try simp only [brs] at hb) <;> conv => whnf) | omega | (refine And.intro ?_ ?_; ((try dsimp only); first | omega | (refine szA rfl ?_; omega) | (refine szB rfl ?_; omega) | (unfold inI64; omega) | exact rfl | (simp only [lns] at *; omega) | decide | (unfold inI64; decide)); conv => whnf) | decide | assumption)
 refine .ret _ ?_
 conv => whnf
 refine ⟨[], ⟨?_, rfl⟩, trivial⟩
 conv => lhs; whnf
def tN : List Ned := [⟨[97], 1⟩, ⟨[98], -1⟩]
def tR : List Roa := [⟨[97], [98], 4, 0⟩]
theorem s113t : FSpec Tryz.prog 188 [.d (neds tN), .d (roas tR)] [] (fun x r => x = .d (.int .i64 0) ∧ r = []) := by
 have h := s113 tN tR ⟨by simp [tN], by intro x hx; simp [tN] at hx; rcases hx with rfl | rfl <;> simp [ndK]⟩ ⟨by simp [tR], by intro x hx; simp [tR] at hx; subst hx; simp [rdK]⟩
 rwa [show firstE [ndsE tN, rdsE tR] = 0 by decide] at h
def oTShH189_1 : List (Nat × List Nat) := [(0, []), (1, []), (2, []), (3, [0, 1, 2]), (4, [0, 1, 2]), (5, [0, 1, 2]), (6, []), (7, []), (8, [])]
def oTShH189_6 : List (Nat × List Nat) := [(0, []), (1, []), (2, []), (3, []), (4, [0, 1, 2, 3]), (5, [0, 1, 2, 3, 4]), (6, [0, 1, 2, 3, 4]), (7, [0, 1, 2, 3, 4]), (8, [0, 1, 2, 3, 4]), (9, [0, 1, 2, 3, 4, 5, 6, 7, 8]), (10, [0, 1, 2, 3, 4, 5, 6, 7, 8, 9]), (11, [0, 1, 2, 3, 4, 5, 6, 7, 8, 9]), (12, [0, 1, 2, 3, 4, 5, 6, 7, 8, 9]), (13, [0, 1, 2, 3, 4, 5, 6, 7, 8, 9, 10, 11, 12]), (14, [0, 1, 2, 3, 4, 5, 6, 7, 8, 9, 10, 11, 12]), (15, [0, 1, 2, 3, 4, 5, 6, 7, 8, 9, 10, 11, 12]), (16, [0, 1, 2, 3, 4, 5, 6, 7, 8, 9, 10, 11, 12]), (17, [9, 13, 14, 15, 16]), (18, [9, 13, 14, 15, 16]), (19, []), (20, [])]
def oTShH189_12 : List (Nat × List Nat) := [(0, []), (1, [0]), (2, [0]), (3, [0]), (4, [0]), (5, [0, 1, 2, 3, 4]), (6, [0, 1, 2, 3, 4, 5]), (7, [0, 1, 2, 3, 4, 5, 6]), (8, [0, 1, 2, 3, 4, 5, 6]), (9, [0, 1, 2, 3, 4]), (10, [0, 1, 2, 3, 4]), (11, [0]), (12, []), (13, []), (14, [])]
def nHas (l : List Roa) : Nat → List DV → Bool
 | 0 => fun _ => false
 | n + 1 => fun q => keyEq q [.str (l.getD n rd0).a, .str (l.getD n rd0).b] || nHas l n q
def nVal (l : List Roa) : Nat → List DV → List DV
 | 0 => fun _ => [.str [], .str [], .int .i64 0, .int .i64 0]
 | n + 1 => fun q => bif keyEq q [.str (l.getD n rd0).a, .str (l.getD n rd0).b] then rdF (l.getD n rd0) else nVal l n q
abbrev netR (l : List Roa) (n : Nat) : Res := .map true true [.str, .str] [.str [], .str [], .int .i64 0, .int .i64 0] (nHas l n) (nVal l n)
theorem s165 (l : List Roa) (hl : l.length ≤ 2^40) : FSpec Tryz.prog 261 [.d (roas l)] [] (fun y r => y = .mp 3 ∧ r = [(3, netR l l.length)]) := by
 refine spec_of hT (C := []) Tryz.func261 rfl Tryz.call261 rfl rfl rfl ?_
 conv => whnf
 refine LoopX.rule hT (C := []) (ι := Nat) (fun i => i ≤ l.length) (fun i => mkSt [(3, .mp 3), (7, .d (roas l)), (8, .d (.int .i64 l.length)), (9, .d (.int .i64 i))] [(3, netR l i)]) (fun i => l.length - i) 0 (by omega) ?_ ?_
 · exact Entails.mk' [(3, 6)] rfl rfl ⟨lr, lr, lr, lr, trivial⟩ ⟨rr, trivial⟩
 rintro i p1
 conv => whnf
 repeat' (first | (refine br_intro ?_ ?_ <;> intro hb <;> (try simp only [brs] at hb) <;> conv => whnf) | omega | (refine And.intro ?_ ?_; ((try dsimp only); first | omega | (refine szA rfl ?_; omega) | (refine szB rfl ?_; omega) | (unfold inI64; omega) | exact rfl | (simp only [lns] at *; omega) | decide | (unfold inI64; decide)); conv => whnf) | decide | assumption)
 · exact ⟨i + 1, by omega, by omega, Entails.mk' [(3, 3)] rfl rfl ⟨lr, lr, lr, lr, trivial⟩ ⟨rr, trivial⟩⟩
 · have : i = l.length := by omega
   subst this
   refine .ret _ ?_
   conv => whnf
   exact ⟨_, ⟨rfl, rfl⟩, rr, trivial⟩
structure Arc where
 fr : Int
 to : Int
 car : Int
 flow : Int
def arF : Arc → List DV := fun s => [.int .i64 s.fr, .int .i64 s.to, .int .i64 s.car, .int .i64 s.flow]
def ar0 : Arc := ⟨0, 0, 0, 0⟩
abbrev froI (l : List Int) : Res := .fro 1 l.length (rowF iF 0 l)
abbrev arcB (l : List Arc) : Res := seqB 267 4 arF ar0 l
set_option maxHeartbeats 4000000 in
theorem s114t : FSpec Tryz.prog 189 [.d (neds tN), .d (roas tR)] [] (fun y r => y = .ptr 20 0 ∧ r = [(20, .cells 265 [.buf 15, .buf 18, .buf 88]), (15, froI [1, 0]), (18, froI [0, 1]), (88, arcB [⟨0, 1, 4, 0⟩])]) := by
 refine spec_of hT (C := []) Tryz.func189 rfl Tryz.call189 rfl rfl rfl ?_
 conv => whnf
 repeat' (first | (refine CallX.of (s165 tR (by simp [tR])) [(3, 22)] rfl ⟨lr, trivial⟩ trivial rfl rfl ?_; rintro x rout ⟨rfl, rfl⟩; refine ⟨rfl, ?_⟩; conv => whnf) | (refine LoopX.run hT (C := []) 8 rfl [0, 5, 6, 23, 24, 25] [] (fun _ _ h => h) (fun _ h => h) ?_; conv => whnf) | (refine LoopX.run hT (C := []) 16 rfl [0, 5, 6, 7, 8, 23, 24, 25, 49, 50, 51] [] (fun _ _ h => h) (fun _ h => h) ?_; conv => whnf) | (refine And.intro (rfl : zrow _ = some [.str [], .str [], .int .i64 0, .int .i64 0]) ?_; conv => whnf) | (refine br_intro ?_ ?_ <;> intro hb <;> (try simp only [brs] at hb) <;> conv => whnf) | (refine RegX.rule (id := 1) hT rfl [] oTShH189_1 (by decide +kernel) ?_; conv => whnf) | (refine RegX.rule (id := 6) hT rfl [] oTShH189_6 (by decide +kernel) ?_; conv => whnf) | (refine RegX.rule (id := 12) hT rfl [] oTShH189_12 (by decide +kernel) ?_; conv => whnf) | omega | (refine And.intro ?_ ?_; ((try dsimp only); first | omega | (refine szA rfl ?_; omega) | (refine szB rfl ?_; omega) | (unfold inI64; omega) | exact rfl | (simp only [lns] at *; omega) | decide | (unfold inI64; decide)); conv => whnf) | decide | assumption)
 refine .freeze _ 15 3 1 _ _ rfl (.freeze _ 18 3 1 _ _ rfl (.ret _ ?_))
 conv => whnf
 refine ⟨_, ⟨rfl, rfl⟩, rr, Res.le_fro rfl ?_, Res.le_fro rfl ?_, Res.le_buf rfl ?_, trivial⟩
 · intro i hi
   have : i = 0 ∨ i = 1 := by simp [tN] at hi; omega
   rcases this with rfl | rfl <;> rfl
 · intro i hi
   have : i = 0 ∨ i = 1 := by simp [tN] at hi; omega
   rcases this with rfl | rfl <;> rfl
 · intro i hi
   have : i = 0 := by simp at hi; omega
   subst this; rfl
theorem s166 (l : List Int) (hl : l.length ≤ 2^20) (h0 : 0 < l.length) : FSpec Tryz.prog 262 [.d (ints l)] [] (fun y r => y = .buf 7 ∧ r = [(7, seqB 3 1 iF 0 l)]) := by
 refine spec_of hT (C := [5]) Tryz.func262 rfl Tryz.call262 rfl rfl rfl ?_
 conv => whnf
 rintro b hbn
 conv => whnf
 repeat' (first | (refine br_intro ?_ ?_ <;> intro hb <;> (try simp only [brs] at hb) <;> conv => whnf) | omega | (refine And.intro ?_ ?_; ((try dsimp only); first | omega | (refine szA rfl ?_; omega) | (refine szB rfl ?_; omega) | (unfold inI64; omega) | exact rfl | (simp only [lns] at *; omega) | decide | (unfold inI64; decide)); conv => whnf) | decide | assumption)
 · exact absurd (hbn (by assumption)) (by omega)
 · refine .ret _ ?_
   conv => whnf
   refine ⟨_, ⟨rfl, rfl⟩, Res.le_buf (by simp) (fun i hi => ?_), trivial⟩
   rw [appGet_ge (by omega)]; rfl
theorem s168e (g : Nat → List DV) : FSpec Tryz.prog 264 [.d (.ro 4 0 g)] [] (fun y r => y = .d (seqD 4 arF ar0 []) ∧ r = []) := by
 refine spec_of hT (C := [5]) Tryz.func264 rfl Tryz.call264 rfl rfl rfl ?_
 conv => whnf
 rintro b hbn
 conv => whnf
 repeat' (first | (refine br_intro ?_ ?_ <;> intro hb <;> (try simp only [brs] at hb) <;> conv => whnf) | omega | (refine And.intro ?_ ?_; ((try dsimp only); first | omega | (refine szA rfl ?_; omega) | (refine szB rfl ?_; omega) | (unfold inI64; omega) | exact rfl | (simp only [lns] at *; omega) | decide | (unfold inI64; decide)); conv => whnf) | decide | assumption)
 · refine .weak _ ?_
   conv => whnf
   exact ⟨_, [], SV.le_nilS, ⟨rfl, rfl⟩, trivial⟩
 · refine .freeze _ 7 267 4 _ _ rfl (.weak _ ?_)
   conv => whnf
   exact ⟨_, [], SV.le_ro (by simp) (fun i hi => absurd hi (by simp)), ⟨rfl, rfl⟩, trivial⟩
def oTShI263_1 : List (Nat × List Nat) := [(0, []), (1, []), (2, []), (3, []), (4, []), (5, []), (6, [0, 1, 2, 3, 4, 5]), (7, [0, 1, 2, 3, 4, 5]), (8, [0, 1, 2, 3, 4, 5]), (9, [0, 1, 2, 3, 4, 5]), (10, [0, 1, 2, 3, 4, 5]), (11, [0, 1, 2, 3, 4, 5]), (12, [6, 7, 8, 9, 10, 11]), (13, [])]
def oTShI263_15 : List (Nat × List Nat) := [(0, []), (1, [0]), (2, [0]), (3, []), (4, []), (5, []), (6, []), (7, []), (8, [7]), (9, [7]), (10, []), (11, []), (12, [7, 8, 9, 10, 11]), (13, [7, 8, 9, 10, 11]), (14, []), (15, [7, 8, 9, 10, 11, 12, 13, 14]), (16, [7, 8, 9, 10, 11, 12, 13, 14, 15]), (17, [7, 8, 9, 10, 11, 12, 13, 14, 15]), (18, [7, 8, 9, 10, 11, 12, 13, 14]), (19, [7, 8, 9, 10, 11, 12, 13, 14]), (20, []), (21, [])]
def oTShI263_16 : List (Nat × List Nat) := [(0, []), (1, [0]), (2, [0]), (3, [0, 1, 2]), (4, [0, 1, 2, 3]), (5, [0, 1, 2, 3]), (6, [0, 1, 2, 3, 4, 5]), (7, [0, 1, 2, 3, 4, 5, 6]), (8, [0, 1, 2, 3, 4, 5, 6]), (9, [0, 1, 2, 3, 4, 5]), (10, [0, 1, 2, 3, 4, 5]), (11, [0, 1, 2, 3, 4, 5, 6, 7, 8, 9, 10]), (12, [0, 1, 2, 3, 4, 5, 6, 7, 8, 9, 10]), (13, [0, 1, 2, 3, 4, 5]), (14, [0, 1, 2, 3, 4, 5, 6, 7, 8, 9, 10, 11, 12, 13]), (15, [0, 1, 2, 3, 4, 5, 6, 7, 8, 9, 10, 11, 12, 13]), (16, [3, 4, 5, 14, 15]), (17, [3, 4, 5, 14, 15]), (18, []), (19, []), (20, [])]
def oTShI263_17 : List (Nat × List Nat) := [(0, []), (1, []), (2, []), (3, []), (4, []), (5, [4]), (6, [4]), (7, []), (8, []), (9, []), (10, []), (11, []), (12, []), (13, [12]), (14, [12]), (15, []), (16, []), (17, [12, 13, 14, 15, 16]), (18, [12, 13, 14, 15, 16]), (19, []), (20, [12, 13, 14, 15, 16, 17, 18, 19]), (21, [12, 13, 14, 15, 16, 17, 18, 19, 20]), (22, [12, 13, 14, 15, 16, 17, 18, 19, 20]), (23, [12, 13, 14, 15, 16, 17, 18, 19]), (24, [12, 13, 14, 15, 16, 17, 18, 19]), (25, []), (26, [])]
def oTShI263_18 : List (Nat × List Nat) := [(0, []), (1, [0]), (2, [0]), (3, [0, 1, 2]), (4, [0, 1, 2, 3]), (5, [0, 1, 2, 3]), (6, [0, 1, 2, 3, 4, 5]), (7, [0, 1, 2, 3, 4, 5, 6]), (8, [0, 1, 2, 3, 4, 5, 6]), (9, [0, 1, 2, 3, 4, 5]), (10, [0, 1, 2, 3, 4, 5]), (11, [0, 1, 2, 3, 4, 5, 6, 7, 8, 9, 10]), (12, [0, 1, 2, 3, 4, 5, 6, 7, 8, 9, 10]), (13, [0, 1, 2, 3, 4, 5]), (14, [0, 1, 2, 3, 4, 5, 6, 7, 8, 9, 10, 11, 12, 13]), (15, [0, 1, 2, 3, 4, 5, 6, 7, 8, 9, 10, 11, 12, 13]), (16, [3, 4, 5, 14, 15]), (17, [3, 4, 5, 14, 15]), (18, []), (19, []), (20, [])]
def oTShI191_1 : List (Nat × List Nat) := [(0, []), (1, []), (2, []), (3, []), (5, [0, 1, 2, 3]), (6, [0, 1, 2, 3]), (7, [0, 1, 2, 3]), (8, [0, 1, 2, 3]), (10, [0, 1, 2, 3, 5, 6, 7, 8]), (11, [0, 1, 2, 3, 5, 6, 7, 8]), (12, [0, 1, 2, 3, 5, 6, 7, 8]), (13, [0, 1, 2, 3, 5, 6, 7, 8]), (14, [0, 1, 2, 3, 5, 6, 7, 8, 10, 11, 12, 13]), (15, [0, 1, 2, 3, 5, 6, 7, 8]), (4, [5, 6, 7, 8, 10, 11, 12, 13, 14, 15]), (9, [10, 11, 12, 13, 14, 15]), (16, []), (17, []), (18, []), (19, [])]
def stF : Int × Bool → List DV := fun s => [.int .i64 s.1, .bool s.2]
abbrev steps (l : List (Int × Bool)) : DV := seqD 2 stF (0, false) l
abbrev tpC : Res := .cells 265 [.buf 1000001, .buf 1000002, .buf 1000003]
abbrev tpB (h w : List Int) (l : List Arc) : List (Nat × Res) := [(1000000, tpC), (1000001, froI h), (1000002, froI w), (1000003, arcB l)]
abbrev tpD (h w : List Int) : List (Nat × Res) := [(1000000, .cells 265 [.buf 1000001, .buf 1000002, .d (seqD 4 arF ar0 [])]), (1000001, froI h), (1000002, froI w)]
set_option maxHeartbeats 4000000 in
theorem s167a : FSpec Tryz.prog 263 [.ptr 1000000 0, .buf 1000004] ([(1000004, seqB 3 1 iF 0 [1, 0])] ++ tpB [1, 0] [0, 1] [⟨0, 1, 4, 0⟩])
 (fun y r => y = .tup [.d (ints [0, 4]), .d (steps [(-1, false), (0, false)])] ∧ r = [(1000004, seqB 3 1 iF 0 [1, 0])] ++ tpB [1, 0] [0, 1] [⟨0, 1, 4, 0⟩]) := by
 refine spec_of hT (C := []) Tryz.func263 rfl Tryz.call263 rfl rfl rfl ?_
 conv => whnf
 repeat' (first | (refine LoopX.run hT (C := []) 6 rfl [0, 1, 4, 5, 23, 24] [1000000, 1000001, 1000002, 1000003, 1000004] (fun _ _ h => h) (fun _ h => h) ?_; conv => whnf) | (refine LoopX.run hT (C := []) 20 rfl [0, 4, 5, 7] [1000000, 1000001, 1000002, 1000003, 1000004] (fun _ _ h => h) (fun _ h => h) ?_; conv => whnf) | (refine LoopX.run hT (C := []) 26 rfl [0, 4, 5, 7, 47, 48, 49] [1000000, 1000001, 1000002, 1000003, 1000004] (fun _ _ h => h) (fun _ h => h) ?_; conv => whnf) | (refine br_intro ?_ ?_ <;> intro hb <;> (try simp only [brs] at hb) <;> conv => whnf) | (refine RegX.rule (id := 1) hT rfl [] oTShI263_1 (by decide +kernel) ?_; conv => whnf) | (refine RegX.rule (id := 15) hT rfl [] oTShI263_15 (by decide +kernel) ?_; conv => whnf) | (refine RegX.rule (id := 16) hT rfl [] oTShI263_16 (by decide +kernel) ?_; conv => whnf) | (refine RegX.rule (id := 17) hT rfl [] oTShI263_17 (by decide +kernel) ?_; conv => whnf) | (refine RegX.rule (id := 18) hT rfl [] oTShI263_18 (by decide +kernel) ?_; conv => whnf) | omega | (refine And.intro ?_ ?_; ((try dsimp only); first | omega | (refine szA rfl ?_; omega) | (refine szB rfl ?_; omega) | (unfold inI64; omega) | exact rfl | (simp only [lns] at *; omega) | decide | (unfold inI64; decide)); conv => whnf) | decide | assumption)
 refine .freeze _ 15 3 1 _ _ rfl (.freeze _ 21 337 2 _ _ rfl (.weak _ ?_))
 conv => whnf
 refine ⟨.tup [.d (ints [0, 4]), .d (steps [(-1, false), (0, false)])], _, SV.le_tup ⟨SV.le_ro rfl ?_, SV.le_ro rfl ?_, trivial⟩, ⟨rfl, rfl⟩, ?_⟩
 · intro i hi
   have : i = 0 ∨ i = 1 := by simp at hi; omega
   rcases this with rfl | rfl <;> rfl
 · intro i hi
   have : i = 0 ∨ i = 1 := by simp at hi; omega
   rcases this with rfl | rfl <;> rfl
 · refine ⟨rr, rr, rr, rr, ?_⟩
   first | exact trivial | exact ⟨rr, trivial⟩
set_option maxHeartbeats 4000000 in
theorem s167b : FSpec Tryz.prog 263 [.ptr 1000000 0, .buf 1000004] ([(1000004, seqB 3 1 iF 0 [0, 0])] ++ tpB [1, 0] [0, 1] [⟨0, 1, 4, 1⟩])
 (fun y r => y = .tup [.d (ints [1125899906842624, 1125899906842624]), .d (steps [(-1, false), (-1, false)])] ∧ r = [(1000004, seqB 3 1 iF 0 [0, 0])] ++ tpB [1, 0] [0, 1] [⟨0, 1, 4, 1⟩]) := by
 refine spec_of hT (C := []) Tryz.func263 rfl Tryz.call263 rfl rfl rfl ?_
 conv => whnf
 repeat' (first | (refine LoopX.run hT (C := []) 6 rfl [0, 1, 4, 5, 23, 24] [1000000, 1000001, 1000002, 1000003, 1000004] (fun _ _ h => h) (fun _ h => h) ?_; conv => whnf) | (refine LoopX.run hT (C := []) 20 rfl [0, 4, 5, 7] [1000000, 1000001, 1000002, 1000003, 1000004] (fun _ _ h => h) (fun _ h => h) ?_; conv => whnf) | (refine LoopX.run hT (C := []) 26 rfl [0, 4, 5, 7, 47, 48, 49] [1000000, 1000001, 1000002, 1000003, 1000004] (fun _ _ h => h) (fun _ h => h) ?_; conv => whnf) | (refine br_intro ?_ ?_ <;> intro hb <;> (try simp only [brs] at hb) <;> conv => whnf) | (refine RegX.rule (id := 1) hT rfl [] oTShI263_1 (by decide +kernel) ?_; conv => whnf) | (refine RegX.rule (id := 15) hT rfl [] oTShI263_15 (by decide +kernel) ?_; conv => whnf) | (refine RegX.rule (id := 16) hT rfl [] oTShI263_16 (by decide +kernel) ?_; conv => whnf) | (refine RegX.rule (id := 17) hT rfl [] oTShI263_17 (by decide +kernel) ?_; conv => whnf) | (refine RegX.rule (id := 18) hT rfl [] oTShI263_18 (by decide +kernel) ?_; conv => whnf) | omega | (refine And.intro ?_ ?_; ((try dsimp only); first | omega | (refine szA rfl ?_; omega) | (refine szB rfl ?_; omega) | (unfold inI64; omega) | exact rfl | (simp only [lns] at *; omega) | decide | (unfold inI64; decide)); conv => whnf) | decide | assumption)
 refine .freeze _ 15 3 1 _ _ rfl (.freeze _ 21 337 2 _ _ rfl (.weak _ ?_))
 conv => whnf
 refine ⟨.tup [.d (ints [1125899906842624, 1125899906842624]), .d (steps [(-1, false), (-1, false)])], _, SV.le_tup ⟨SV.le_ro rfl ?_, SV.le_ro rfl ?_, trivial⟩, ⟨rfl, rfl⟩, ?_⟩
 · intro i hi
   have : i = 0 ∨ i = 1 := by simp at hi; omega
   rcases this with rfl | rfl <;> rfl
 · intro i hi
   have : i = 0 ∨ i = 1 := by simp at hi; omega
   rcases this with rfl | rfl <;> rfl
 · refine ⟨rr, rr, rr, rr, ?_⟩
   first | exact trivial | exact ⟨rr, trivial⟩
set_option maxHeartbeats 4000000 in
theorem s167c : FSpec Tryz.prog 263 [.ptr 1000000 0, .buf 1000004] ([(1000004, seqB 3 1 iF 0 [0, 0])] ++ tpD [0, 0] [0, 0])
 (fun y r => y = .tup [.d (ints [1125899906842624, 1125899906842624]), .d (steps [(-1, false), (-1, false)])] ∧ r = [(1000004, seqB 3 1 iF 0 [0, 0])] ++ tpD [0, 0] [0, 0]) := by
 refine spec_of hT (C := []) Tryz.func263 rfl Tryz.call263 rfl rfl rfl ?_
 conv => whnf
 repeat' (first | (refine LoopX.run hT (C := []) 6 rfl [0, 1, 4, 5, 23, 24] [1000000, 1000001, 1000002, 1000004] (fun _ _ h => h) (fun _ h => h) ?_; conv => whnf) | (refine LoopX.run hT (C := []) 20 rfl [0, 4, 5, 7] [1000000, 1000001, 1000002, 1000004] (fun _ _ h => h) (fun _ h => h) ?_; conv => whnf) | (refine LoopX.run hT (C := []) 26 rfl [0, 4, 5, 7, 47, 48, 49] [1000000, 1000001, 1000002, 1000004] (fun _ _ h => h) (fun _ h => h) ?_; conv => whnf) | (refine br_intro ?_ ?_ <;> intro hb <;> (try simp only [brs] at hb) <;> conv => whnf) | (refine RegX.rule (id := 1) hT rfl [] oTShI263_1 (by decide +kernel) ?_; conv => whnf) | (refine RegX.rule (id := 15) hT rfl [] oTShI263_15 (by decide +kernel) ?_; conv => whnf) | (refine RegX.rule (id := 16) hT rfl [] oTShI263_16 (by decide +kernel) ?_; conv => whnf) | (refine RegX.rule (id := 17) hT rfl [] oTShI263_17 (by decide +kernel) ?_; conv => whnf) | (refine RegX.rule (id := 18) hT rfl [] oTShI263_18 (by decide +kernel) ?_; conv => whnf) | omega | (refine And.intro ?_ ?_; ((try dsimp only); first | omega | (refine szA rfl ?_; omega) | (refine szB rfl ?_; omega) | (unfold inI64; omega) | exact rfl | (simp only [lns] at *; omega) | decide | (unfold inI64; decide)); conv => whnf) | decide | assumption)
 refine .freeze _ 15 3 1 _ _ rfl (.freeze _ 21 337 2 _ _ rfl (.weak _ ?_))
 conv => whnf
 refine ⟨.tup [.d (ints [1125899906842624, 1125899906842624]), .d (steps [(-1, false), (-1, false)])], _, SV.le_tup ⟨SV.le_ro rfl ?_, SV.le_ro rfl ?_, trivial⟩, ⟨rfl, rfl⟩, ?_⟩
 · intro i hi
   have : i = 0 ∨ i = 1 := by simp at hi; omega
   rcases this with rfl | rfl <;> rfl
 · intro i hi
   have : i = 0 ∨ i = 1 := by simp at hi; omega
   rcases this with rfl | rfl <;> rfl
 · refine ⟨rr, rr, rr, rr, ?_⟩
   first | exact trivial | exact ⟨rr, trivial⟩
set_option maxHeartbeats 4000000 in
theorem s116t : FSpec Tryz.prog 191 [.ptr 1000000 0, .d (.int .i64 1), .d (.int .i64 0), .d (.int .i64 1), .d (.int .i64 1)] [(1000000, tpC), (1000001, froI [1, 0]), (1000002, froI [0, 1]), (1000003, .fro 4 1 (rowF arF ar0 [⟨0, 1, 4, 1⟩]))]
 (fun y r => y = .ptr 30 0 ∧ r = [(1000000, tpC), (1000001, froI [1, 0]), (1000002, froI [0, 1]), (1000003, .fro 4 1 (rowF arF ar0 [⟨0, 1, 4, 1⟩])), (30, .cells 265 [.buf 16, .buf 21, .d (seqD 4 arF ar0 [])]), (16, froI [0, 0]), (21, froI [0, 0])]) := by
 refine spec_of hT (C := []) Tryz.func191 rfl Tryz.call191 rfl rfl rfl ?_
 conv => whnf
 refine RegX.rule hT rfl [] oTShI191_1 (by decide +kernel) ?_
 conv => whnf
 repeat' (first | (refine CallX.of (s166 [1, 0] (by simp) (by simp)) [(7, 16)] rfl ⟨lr, trivial⟩ trivial rfl rfl ?_; rintro x rout ⟨rfl, rfl⟩; refine ⟨rfl, ?_⟩; conv => whnf) | (refine CallX.of (s166 [0, 1] (by simp) (by simp)) [(7, 21)] rfl ⟨lr, trivial⟩ trivial rfl rfl ?_; rintro x rout ⟨rfl, rfl⟩; refine ⟨rfl, ?_⟩; conv => whnf) | (refine CallX.pure (s168e _) ⟨lr, trivial⟩ rfl ?_; conv => whnf) | (refine br_intro ?_ ?_ <;> intro hb <;> (try simp only [brs] at hb) <;> conv => whnf) | (refine RegX.rule (id := 1) hT rfl [] oTShI191_1 (by decide +kernel) ?_; conv => whnf) | omega | (refine And.intro ?_ ?_; ((try dsimp only); first | omega | (refine szA rfl ?_; omega) | (refine szB rfl ?_; omega) | (unfold inI64; omega) | exact rfl | (simp only [lns] at *; omega) | decide | (unfold inI64; decide)); conv => whnf) | decide | assumption)
 refine .freeze _ 16 3 1 _ _ rfl (.freeze _ 21 3 1 _ _ rfl (.ret _ ?_))
 conv => whnf
 refine ⟨_, ⟨rfl, rfl⟩, rr, rr, rr, rr, rr, Res.le_fro rfl ?_, Res.le_fro rfl ?_, trivial⟩
 · intro i hi
   have : i = 0 ∨ i = 1 := by simp at hi; omega
   rcases this with rfl | rfl <;> rfl
 · intro i hi
   have : i = 0 ∨ i = 1 := by simp at hi; omega
   rcases this with rfl | rfl <;> rfl
def oTShJ190_1 : List (Nat × List Nat) := [(0, []), (1, []), (2, []), (3, []), (5, [0, 1, 2, 3]), (6, [0, 1, 2, 3]), (7, [0, 1, 2, 3]), (8, [0, 1, 2, 3]), (4, [5, 6, 7, 8]), (9, []), (10, []), (11, [])]
def oTShJ190_14 : List (Nat × List Nat) := [(0, []), (1, []), (2, []), (3, []), (4, [3]), (5, []), (6, []), (7, []), (8, []), (9, []), (10, []), (11, []), (12, []), (13, []), (14, [13]), (15, []), (16, []), (17, [13, 14, 15, 16]), (18, [13, 14, 15, 16, 17]), (19, [13, 14, 15, 16]), (20, [13, 14, 15, 16]), (21, []), (22, []), (23, [])]
def oTShJ190_21 : List (Nat × List Nat) := [(0, []), (1, []), (2, []), (3, []), (4, [0, 1, 2, 3]), (5, [0, 1, 2, 3, 4]), (6, [0, 1, 2, 3]), (7, [0, 1, 2, 3]), (8, [0, 1, 2, 3]), (9, []), (10, []), (11, [0, 1, 2, 3, 4, 5, 6, 7, 8, 9, 10]), (12, [])]
def oTShJ190_23 : List (Nat × List Nat) := [(0, []), (1, [0]), (2, [0]), (3, []), (4, [0, 1, 2, 3]), (5, [0, 1, 2, 3]), (6, [4, 5]), (7, [])]
def oTShJ190_31 : List (Nat × List Nat) := [(0, []), (1, []), (2, []), (3, []), (4, [0, 1, 2, 3]), (5, [0, 1, 2, 3, 4]), (6, [0, 1, 2, 3]), (7, [0, 1, 2, 3]), (8, [0, 1, 2, 3]), (9, []), (10, [])]
def oTShJ140_13 : List (Nat × List Nat) := [(0, []), (1, [0]), (2, [0]), (3, [0]), (4, [0]), (5, [0, 1, 2, 3, 4]), (6, [0, 1, 2, 3, 4]), (7, [0]), (8, [0]), (9, [0, 1, 2, 3, 4, 5, 6, 7, 8]), (10, [0, 1, 2, 3, 4, 5, 6, 7, 8]), (11, [0, 1, 2, 3, 4, 5, 6, 7, 8]), (12, [0, 1, 2, 3, 4, 5, 6, 7, 8]), (13, [0, 1, 2, 3, 4, 5, 6, 7, 8, 9, 10, 11, 12]), (14, [0, 1, 2, 3, 4, 5, 6, 7, 8, 9, 10, 11, 12]), (15, [0, 1, 2, 3, 4, 5, 6, 7, 8]), (16, [0, 1, 2, 3, 4, 5, 6, 7, 8]), (17, [0]), (18, [])]
def oTShJ140_19 : List (Nat × List Nat) := [(0, []), (1, [0]), (2, [0, 1]), (3, [0, 1]), (4, [0]), (5, [0]), (6, [0]), (7, [0, 1, 2, 3, 4, 5, 6]), (8, [0, 1, 2, 3, 4, 5, 6, 7]), (9, [0, 1, 2, 3, 4, 5, 6, 7]), (10, [0, 1, 2, 3, 4, 5, 6]), (11, [0, 1, 2, 3, 4, 5, 6]), (12, [0, 1, 2, 3, 4, 5, 6]), (13, [0, 1, 2, 3, 4, 5, 6, 7, 8, 9, 10, 11, 12]), (14, [0]), (15, [0]), (16, []), (17, [])]
set_option maxHeartbeats 8000000 in
theorem s115a : FSpec Tryz.prog 190 [.ptr 1000000 0] (tpB [1, 0] [0, 1] [⟨0, 1, 4, 0⟩]) (fun y r => y = .tup [.d (.int .i64 4), .d (.bool true)] ∧ r = tpB [1, 0] [0, 1] [⟨0, 1, 4, 1⟩]) := by
 refine spec_of hT (C := []) Tryz.func190 rfl Tryz.call190 rfl rfl rfl ?_
 conv => whnf
 refine RegX.rule hT rfl [] oTShJ190_1 (by decide +kernel) ?_
 conv => whnf
 repeat' (first | (refine CallX.of (s166 [1, 0] (by simp) (by simp)) [(7, 22)] rfl ⟨lr, trivial⟩ trivial rfl rfl ?_; rintro x rout ⟨rfl, rfl⟩; refine ⟨rfl, ?_⟩; conv => whnf) | (refine CallX.of (s166 [0, 1] (by simp) (by simp)) [(7, 27)] rfl ⟨lr, trivial⟩ trivial rfl rfl ?_; rintro x rout ⟨rfl, rfl⟩; refine ⟨rfl, ?_⟩; conv => whnf) | (refine CallX.of s167a [(1000000, 1000000), (1000001, 1000001), (1000002, 1000002), (1000003, 1000003), (1000004, 22)] rfl ⟨lr, lr, trivial⟩ ⟨(Res.le_buf rfl (fun i hi => by (have : i = 0 ∨ i = 1 := by simp at hi; omega); rcases this with (rfl | rfl) <;> rfl)), rr, rr, rr, (Res.le_buf rfl (fun i hi => by (have : i = 0 := by simp at hi; omega); subst this; rfl)), trivial⟩ rfl rfl ?_; rintro x rout ⟨rfl, rfl⟩; refine ⟨rfl, ?_⟩; conv => whnf) | (refine CallX.of s167b [(1000000, 1000000), (1000001, 1000001), (1000002, 1000002), (1000003, 1000003), (1000004, 22)] rfl ⟨lr, lr, trivial⟩ ⟨(Res.le_buf rfl (fun i hi => by (have : i = 0 ∨ i = 1 := by simp at hi; omega); rcases this with (rfl | rfl) <;> rfl)), rr, rr, rr, (Res.le_buf rfl (fun i hi => by (have : i = 0 := by simp at hi; omega); subst this; rfl)), trivial⟩ rfl rfl ?_; rintro x rout ⟨rfl, rfl⟩; refine ⟨rfl, ?_⟩; conv => whnf) | (refine LoopX.run hT (C := []) 6 rfl [0, 4, 5, 32, 33] [1000000, 1000001, 1000002, 1000003] (fun _ _ h => h) (fun _ h => h) ?_; conv => whnf) | (refine LoopX.run hT (C := []) 7 rfl [0, 4, 5, 7] [1000000, 1000001, 1000002, 1000003] (fun _ _ h => h) (fun _ h => h) ?_; conv => whnf) | (refine LoopX.run hT (C := []) 22 rfl [0, 4, 5, 7, 8, 9, 10, 11, 50, 51, 52] [1000000, 1000001, 1000002, 1000003] (fun _ _ h => h) (fun _ h => h) ?_; conv => whnf) | (refine LoopX.run hT (C := []) 40 rfl [0, 4, 5, 7, 8, 9, 10, 14, 15] [1000000, 1000001, 1000002, 1000003] (fun _ _ h => h) (fun _ h => h) ?_; conv => whnf) | (refine LoopX.run hT (C := []) 60 rfl [0, 4, 5, 7, 9, 14, 15] [1000000, 1000001, 1000002, 1000003] (fun _ _ h => h) (fun _ h => h) ?_; conv => whnf) | (refine br_intro ?_ ?_ <;> intro hb <;> (try simp only [brs] at hb) <;> conv => whnf) | (refine RegX.rule (id := 1) hT rfl [] oTShJ190_1 (by decide +kernel) ?_; conv => whnf) | (refine RegX.rule (id := 14) hT rfl [] oTShJ190_14 (by decide +kernel) ?_; conv => whnf) | (refine RegX.rule (id := 21) hT rfl [] oTShJ190_21 (by decide +kernel) ?_; conv => whnf) | (refine RegX.rule (id := 23) hT rfl [] oTShJ190_23 (by decide +kernel) ?_; conv => whnf) | (refine RegX.rule (id := 31) hT rfl [] oTShJ190_31 (by decide +kernel) ?_; conv => whnf) | omega | (refine And.intro ?_ ?_; ((try dsimp only); first | omega | (refine szA rfl ?_; omega) | (refine szB rfl ?_; omega) | (unfold inI64; omega) | exact rfl | (simp only [lns] at *; omega) | decide | (unfold inI64; decide)); conv => whnf) | decide | assumption)
 refine .weak _ ?_
 conv => whnf
 exact ⟨.tup [.d (.int .i64 4), .d (.bool true)], _, SV.le_tup ⟨SV.le_int rfl, SV.le_bool rfl, trivial⟩, ⟨rfl, rfl⟩, rr, rr, rr, (Res.le_buf rfl (fun i hi => by (have : i = 0 := by simp at hi; omega); subst this; rfl)), trivial⟩
set_option maxHeartbeats 8000000 in
theorem s115b : FSpec Tryz.prog 190 [.ptr 1000000 0] (tpD [0, 0] [0, 0]) (fun y r => y = .tup [.d (.int .i64 0), .d (.bool true)] ∧ r = tpD [0, 0] [0, 0]) := by
 refine spec_of hT (C := []) Tryz.func190 rfl Tryz.call190 rfl rfl rfl ?_
 conv => whnf
 refine RegX.rule hT rfl [] oTShJ190_1 (by decide +kernel) ?_
 conv => whnf
 repeat' (first | (refine CallX.of (s166 [0, 0] (by simp) (by simp)) [(7, 22)] rfl ⟨lr, trivial⟩ trivial rfl rfl ?_; rintro x rout ⟨rfl, rfl⟩; refine ⟨rfl, ?_⟩; conv => whnf) | (refine CallX.of (s166 [0, 0] (by simp) (by simp)) [(7, 27)] rfl ⟨lr, trivial⟩ trivial rfl rfl ?_; rintro x rout ⟨rfl, rfl⟩; refine ⟨rfl, ?_⟩; conv => whnf) | (refine CallX.of s167c [(1000000, 1000000), (1000001, 1000001), (1000002, 1000002), (1000004, 22)] rfl ⟨lr, lr, trivial⟩ ⟨rr, rr, rr, rr, trivial⟩ rfl rfl ?_; rintro x rout ⟨rfl, rfl⟩; refine ⟨rfl, ?_⟩; conv => whnf) | (refine LoopX.run hT (C := []) 6 rfl [0, 4, 5, 32, 33] [1000000, 1000001, 1000002] (fun _ _ h => h) (fun _ h => h) ?_; conv => whnf) | (refine LoopX.run hT (C := []) 7 rfl [0, 4, 5, 7] [1000000, 1000001, 1000002] (fun _ _ h => h) (fun _ h => h) ?_; conv => whnf) | (refine LoopX.run hT (C := []) 22 rfl [0, 4, 5, 7, 8, 9, 10, 11, 50, 51, 52] [1000000, 1000001, 1000002] (fun _ _ h => h) (fun _ h => h) ?_; conv => whnf) | (refine LoopX.run hT (C := []) 40 rfl [0, 4, 5, 7, 8, 9, 10, 14, 15] [1000000, 1000001, 1000002] (fun _ _ h => h) (fun _ h => h) ?_; conv => whnf) | (refine LoopX.run hT (C := []) 60 rfl [0, 4, 5, 7, 9, 14, 15] [1000000, 1000001, 1000002] (fun _ _ h => h) (fun _ h => h) ?_; conv => whnf) | (refine br_intro ?_ ?_ <;> intro hb <;> (try simp only [brs] at hb) <;> conv => whnf) | (refine RegX.rule (id := 1) hT rfl [] oTShJ190_1 (by decide +kernel) ?_; conv => whnf) | (refine RegX.rule (id := 14) hT rfl [] oTShJ190_14 (by decide +kernel) ?_; conv => whnf) | (refine RegX.rule (id := 21) hT rfl [] oTShJ190_21 (by decide +kernel) ?_; conv => whnf) | (refine RegX.rule (id := 23) hT rfl [] oTShJ190_23 (by decide +kernel) ?_; conv => whnf) | (refine RegX.rule (id := 31) hT rfl [] oTShJ190_31 (by decide +kernel) ?_; conv => whnf) | omega | (refine And.intro ?_ ?_; ((try dsimp only); first | omega | (refine szA rfl ?_; omega) | (refine szB rfl ?_; omega) | (unfold inI64; omega) | exact rfl | (simp only [lns] at *; omega) | decide | (unfold inI64; decide)); conv => whnf) | decide | assumption)
 refine .weak _ ?_
 conv => whnf
 exact ⟨.tup [.d (.int .i64 0), .d (.bool true)], _, SV.le_tup ⟨SV.le_int rfl, SV.le_bool rfl, trivial⟩, ⟨rfl, rfl⟩, rr, rr, rr, trivial⟩
set_option maxHeartbeats 8000000 in
theorem s27t : FSpec Tryz.prog 140 [.d (neds tN), .d (roas tR)] [] (fun y r => y = .tup [.d (movs [⟨[97], [98], 1⟩]), .d (.int .i64 0)] ∧ r = []) := by
 refine spec_of hT (C := []) Tryz.func140 rfl Tryz.call140 rfl rfl rfl ?_
 conv => whnf
 repeat' (first | (refine CallX.exact (s113t) rfl rfl ?_; rotate_right; conv => whnf) | (refine CallX.of s114t [(20, 24), (15, 1000), (18, 1001), (88, 1002)] rfl ⟨lr, lr, trivial⟩ trivial rfl rfl ?_; rintro x rout ⟨rfl, rfl⟩; refine ⟨rfl, ?_⟩; conv => whnf) | (refine CallX.of s115a [(1000000, 24), (1000001, 1000), (1000002, 1001), (1000003, 1002)] rfl ⟨lr, trivial⟩ ⟨rr, rr, rr, rr, trivial⟩ rfl rfl ?_; rintro x rout ⟨rfl, rfl⟩; refine ⟨rfl, ?_⟩; conv => whnf) | (refine br_intro ?_ ?_ <;> intro hb <;> (try simp only [brs] at hb) <;> conv => whnf) | (refine RegX.rule (id := 13) hT rfl [] oTShJ140_13 (by decide +kernel) ?_; conv => whnf) | (refine RegX.rule (id := 19) hT rfl [] oTShJ140_19 (by decide +kernel) ?_; conv => whnf) | omega | (refine And.intro ?_ ?_; ((try dsimp only); first | omega | (refine szA rfl ?_; omega) | (refine szB rfl ?_; omega) | (unfold inI64; omega) | exact rfl | (simp only [lns] at *; omega) | decide | (unfold inI64; decide)); conv => whnf) | decide | assumption)
 refine LoopX.freeze 1002 267 4 1 _ rfl ?_
 repeat' (first | (refine CallX.of s116t [(1000000, 24), (1000001, 1000), (1000002, 1001), (1000003, 1002), (30, 1100), (16, 1101), (21, 1102)] rfl ⟨lr, SV.le_int rfl, SV.le_int rfl, SV.le_int rfl, SV.le_int rfl, trivial⟩ ⟨rr, rr, rr, Res.le_fro rfl (fun i hi => by (have : i = 0 := by simp at hi; omega); subst this; rfl), trivial⟩ rfl rfl ?_; rintro x rout ⟨rfl, rfl⟩; refine ⟨rfl, ?_⟩; conv => whnf) | (refine CallX.of s116t [(1000000, 24), (1000001, 1000), (1000002, 1001), (1000003, 1002), (30, 1200), (16, 1201), (21, 1202)] rfl ⟨lr, SV.le_int rfl, SV.le_int rfl, SV.le_int rfl, SV.le_int rfl, trivial⟩ ⟨rr, rr, rr, Res.le_fro rfl (fun i hi => by (have : i = 0 := by simp at hi; omega); subst this; rfl), trivial⟩ rfl rfl ?_; rintro x rout ⟨rfl, rfl⟩; refine ⟨rfl, ?_⟩; conv => whnf) | (refine CallX.of s115b [(1000000, 1100), (1000001, 1101), (1000002, 1102)] rfl ⟨lr, trivial⟩ ⟨rr, rr, rr, trivial⟩ rfl rfl ?_; rintro x rout ⟨rfl, rfl⟩; refine ⟨rfl, ?_⟩; conv => whnf) | (refine LoopX.run hT (C := []) 18 rfl [0, 7, 8, 10] [] (fun _ _ h => h) (fun _ h => h) ?_; conv => whnf) | (refine LoopX.run hT (C := []) 26 rfl [0, 7, 8, 10, 11, 12, 13] [] (fun _ _ h => h) (fun _ h => h) ?_; conv => whnf) | (refine br_intro ?_ ?_ <;> intro hb <;> (try simp only [brs] at hb) <;> conv => whnf) | (refine RegX.rule (id := 13) hT rfl [] oTShJ140_13 (by decide +kernel) ?_; conv => whnf) | (refine RegX.rule (id := 19) hT rfl [] oTShJ140_19 (by decide +kernel) ?_; conv => whnf) | omega | (refine And.intro ?_ ?_; ((try dsimp only); first | omega | (refine szA rfl ?_; omega) | (refine szB rfl ?_; omega) | (unfold inI64; omega) | exact rfl | (simp only [lns] at *; omega) | decide | (unfold inI64; decide)); conv => whnf) | decide | assumption)
 refine .freeze _ 106 270 3 _ _ rfl (.weak _ ?_)
 conv => whnf
 exact ⟨.tup [.d (movs [⟨[97], [98], 1⟩]), .d (.int .i64 0)], _, SV.le_tup ⟨SV.le_ro rfl (fun i hi => by (have : i = 0 := by simp at hi; omega); subst this; rfl), SV.le_int rfl, trivial⟩, ⟨rfl, rfl⟩, trivial⟩
theorem mov_eq {a b : Mov} : a = b ↔ a.a = b.a ∧ a.b = b.b ∧ a.many = b.many := by cases a; cases b; simp
instance : DecidableEq Mov := fun _ _ => decidable_of_iff _ mov_eq.symm
structure Pnl where
 key : List UInt8
 w : Int
 h : Int
 pr : Int
structure Mrk where
 pan : List UInt8
 kind : Int
 x : Int
 y : Int
 size : Int
structure Rul where
 near : Int
 slack : Int
 join : Int
 part : Int
theorem less_trans : ∀ {a b c : List UInt8}, Op.bytesLess a b = true → Op.bytesLess b c = true → Op.bytesLess a c = true := by
 intro a
 induction a with
 | nil => intro b c h1 h2; cases b <;> cases c <;> simp_all [Op.bytesLess]
 | cons x a ih =>
   intro b c h1 h2
   cases b with
   | nil => simp [Op.bytesLess] at h1
   | cons y b =>
     cases c with
     | nil => simp [Op.bytesLess] at h2
     | cons z c =>
       simp only [Op.bytesLess] at h1 h2 ⊢
       grind [UInt8.lt_trans]
theorem less_irr : ∀ (a : List UInt8), Op.bytesLess a a = false := by
 intro a
 induction a with
 | nil => rfl
 | cons x a ih => simp [Op.bytesLess, ih]
theorem ixF_pos {p : Nat → Bool} {n k : Nat} (hk : k < n) (h : p k = true) : 0 ≤ ixF p n := by
 have hb := ixF_bd (p := p) (n := n)
 rcases Int.lt_or_le (ixF p n) 0 with q | q
 · exfalso
   have hn : ∀ m, ixF p m < 0 → ∀ j, j < m → p j = false := by
    intro m
    induction m with
    | zero => intro _ j hj; omega
    | succ m ih =>
      intro hm j hj
      rw [ixF] at hm
      split at hm
      · rename_i hz
        by_cases hjm : j = m
        · subst hjm
          split at hm
          · omega
          · rename_i hf; simpa using hf
        · exact ih (by omega) j (by omega)
      · rename_i hz; have := (ixF_bd (p := p) (n := m)).1; omega
   rw [hn n q k hk] at h
   cases h
 · exact q
def kyC (key : List UInt8) : Res := .cells 9 [.d (.str key)]
def clIx (l : List Cls) (key : List UInt8) : Int := ixF (fun i => (l.getD i cls0).key == key) l.length
def veIx (l : List Veh) (key : List UInt8) : Int := ixF (fun i => (l.getD i veh0).key == key) l.length
theorem z156 (x : Cls) (key : List UInt8) : FSpec Tryz.prog 156 [.agg ((clsF x).map .d), .ptr 1000001 0] [(1000001, kyC key)] (fun y r => y = .d (.bool (x.key == key)) ∧ r = [(1000001, kyC key)]) := by
 refine spec_of hT (C := []) Tryz.func156 rfl Tryz.call156 rfl rfl rfl ?_
 conv => whnf
 refine .ret _ ?_
 conv => whnf
 exact ⟨[(1000001, kyC key)], ⟨rfl, rfl⟩, rr, trivial⟩
theorem z242 (x : Cls) (key : List UInt8) : FSpec Tryz.prog 242 [.agg ((clsF x).map .d), .ptr 1000001 0] [(1000001, kyC key)] (fun y r => y = .d (.bool (x.key == key)) ∧ r = [(1000001, kyC key)]) := by
 refine spec_of hT (C := []) Tryz.func242 rfl Tryz.call242 rfl rfl rfl ?_
 conv => whnf
 refine .ret _ ?_
 conv => whnf
 exact ⟨[(1000001, kyC key)], ⟨rfl, rfl⟩, rr, trivial⟩
theorem z158 (x : Veh) (key : List UInt8) : FSpec Tryz.prog 158 [.agg ((vehF x).map .d), .ptr 1000001 0] [(1000001, kyC key)] (fun y r => y = .d (.bool (x.key == key)) ∧ r = [(1000001, kyC key)]) := by
 refine spec_of hT (C := []) Tryz.func158 rfl Tryz.call158 rfl rfl rfl ?_
 conv => whnf
 refine .ret _ ?_
 conv => whnf
 exact ⟨[(1000001, kyC key)], ⟨rfl, rfl⟩, rr, trivial⟩
theorem z155a (l : List Cls) (hl : l.length ≤ 2^40) (key : List UInt8) : FSpec Tryz.prog 155 [.d (clss l), .fn 156 [.ptr 1000001 0]] [(1000001, kyC key)] (fun x r => x = .d (.int .i64 (clIx l key)) ∧ r = [(1000001, kyC key)]) := by
 refine spec_of hT (C := []) Tryz.func155 rfl Tryz.call155 rfl rfl rfl ?_
 conv => whnf
 refine LoopX.rule hT (C := []) (ι := Nat) (fun i => i ≤ l.length ∧ ∀ j, j < i → ((l.getD j cls0).key == key) = false) (fun i => mkSt [(0, .d (clss l)), (1, .fn 156 [.ptr 1000001 0]), (7, .d (.int .i64 l.length)), (8, .d (.int .i64 i))] [(1000001, kyC key)]) (fun i => l.length - i) 0 ⟨by omega, by omega⟩ (by (refine Entails.mk' [(1000001, 1000001)] rfl rfl ?_ ?_ <;> repeat' (first | exact True.intro | exact lr | exact rr | exact SV.le_int (by omega) | exact SV.le_any _ | refine And.intro ?_ ?_)); done) ?_
 rintro i ⟨p1, p2⟩
 have e1 : (i : Int).toNat = i := Int.toNat_natCast i
 conv => whnf
 repeat' (first | (refine CallX.of (z156 (l.getD (i : Int).toNat cls0) key) [(1000001, 1000001)] rfl ⟨lr, lr, trivial⟩ ⟨rr, trivial⟩ rfl rfl ?_; rintro x rout ⟨rfl, rfl⟩; refine ⟨rfl, ?_⟩; conv => whnf) | (refine br_intro ?_ ?_ <;> intro hb <;> (try simp only [brs] at hb) <;> conv => whnf) | omega | (refine And.intro ?_ ?_; ((try dsimp only); first | omega | (refine szA rfl ?_; omega) | (refine szB rfl ?_; omega) | (unfold inI64; omega) | exact rfl | (simp only [lns] at *; omega) | decide | (unfold inI64; decide)); conv => whnf) | decide | assumption)
 · refine .ret _ ?_
   conv => whnf
   refine ⟨[(1000001, kyC key)], ⟨?_, rfl⟩, rr, trivial⟩
   conv => lhs; whnf
   congr 2
   exact (ixF_hit (by omega) p2 (by simpa using hb)).symm
 · exact ⟨i + 1, ⟨by omega, all_step p2 (by simpa using hb)⟩, by omega, (by (refine Entails.mk' [(1000001, 1000001)] rfl rfl ?_ ?_ <;> repeat' (first | exact True.intro | exact lr | exact rr | exact SV.le_int (by omega) | exact SV.le_any _ | refine And.intro ?_ ?_)); done)⟩
 · refine .ret _ ?_
   conv => whnf
   refine ⟨[(1000001, kyC key)], ⟨?_, rfl⟩, rr, trivial⟩
   conv => lhs; whnf
   congr 2
   have : i = l.length := by omega
   subst this
   exact (ixF_none p2).symm
theorem z155b (l : List Cls) (hl : l.length ≤ 2^40) (key : List UInt8) : FSpec Tryz.prog 155 [.d (clss l), .fn 242 [.ptr 1000001 0]] [(1000001, kyC key)] (fun x r => x = .d (.int .i64 (clIx l key)) ∧ r = [(1000001, kyC key)]) := by
 refine spec_of hT (C := []) Tryz.func155 rfl Tryz.call155 rfl rfl rfl ?_
 conv => whnf
 refine LoopX.rule hT (C := []) (ι := Nat) (fun i => i ≤ l.length ∧ ∀ j, j < i → ((l.getD j cls0).key == key) = false) (fun i => mkSt [(0, .d (clss l)), (1, .fn 242 [.ptr 1000001 0]), (7, .d (.int .i64 l.length)), (8, .d (.int .i64 i))] [(1000001, kyC key)]) (fun i => l.length - i) 0 ⟨by omega, by omega⟩ (by (refine Entails.mk' [(1000001, 1000001)] rfl rfl ?_ ?_ <;> repeat' (first | exact True.intro | exact lr | exact rr | exact SV.le_int (by omega) | exact SV.le_any _ | refine And.intro ?_ ?_)); done) ?_
 rintro i ⟨p1, p2⟩
 have e1 : (i : Int).toNat = i := Int.toNat_natCast i
 conv => whnf
 repeat' (first | (refine CallX.of (z242 (l.getD (i : Int).toNat cls0) key) [(1000001, 1000001)] rfl ⟨lr, lr, trivial⟩ ⟨rr, trivial⟩ rfl rfl ?_; rintro x rout ⟨rfl, rfl⟩; refine ⟨rfl, ?_⟩; conv => whnf) | (refine br_intro ?_ ?_ <;> intro hb <;> (try simp only [brs] at hb) <;> conv => whnf) | omega | (refine And.intro ?_ ?_; ((try dsimp only); first | omega | (refine szA rfl ?_; omega) | (refine szB rfl ?_; omega) | (unfold inI64; omega) | exact rfl | (simp only [lns] at *; omega) | decide | (unfold inI64; decide)); conv => whnf) | decide | assumption)
 · refine .ret _ ?_
   conv => whnf
   refine ⟨[(1000001, kyC key)], ⟨?_, rfl⟩, rr, trivial⟩
   conv => lhs; whnf
   congr 2
   exact (ixF_hit (by omega) p2 (by simpa using hb)).symm
 · exact ⟨i + 1, ⟨by omega, all_step p2 (by simpa using hb)⟩, by omega, (by (refine Entails.mk' [(1000001, 1000001)] rfl rfl ?_ ?_ <;> repeat' (first | exact True.intro | exact lr | exact rr | exact SV.le_int (by omega) | exact SV.le_any _ | refine And.intro ?_ ?_)); done)⟩
 · refine .ret _ ?_
   conv => whnf
   refine ⟨[(1000001, kyC key)], ⟨?_, rfl⟩, rr, trivial⟩
   conv => lhs; whnf
   congr 2
   have : i = l.length := by omega
   subst this
   exact (ixF_none p2).symm
theorem z157 (l : List Veh) (hl : l.length ≤ 2^40) (key : List UInt8) : FSpec Tryz.prog 157 [.d (vehs l), .fn 158 [.ptr 1000001 0]] [(1000001, kyC key)] (fun x r => x = .d (.int .i64 (veIx l key)) ∧ r = [(1000001, kyC key)]) := by
 refine spec_of hT (C := []) Tryz.func157 rfl Tryz.call157 rfl rfl rfl ?_
 conv => whnf
 refine LoopX.rule hT (C := []) (ι := Nat) (fun i => i ≤ l.length ∧ ∀ j, j < i → ((l.getD j veh0).key == key) = false) (fun i => mkSt [(0, .d (vehs l)), (1, .fn 158 [.ptr 1000001 0]), (7, .d (.int .i64 l.length)), (8, .d (.int .i64 i))] [(1000001, kyC key)]) (fun i => l.length - i) 0 ⟨by omega, by omega⟩ (by (refine Entails.mk' [(1000001, 1000001)] rfl rfl ?_ ?_ <;> repeat' (first | exact True.intro | exact lr | exact rr | exact SV.le_int (by omega) | exact SV.le_any _ | refine And.intro ?_ ?_)); done) ?_
 rintro i ⟨p1, p2⟩
 have e1 : (i : Int).toNat = i := Int.toNat_natCast i
 conv => whnf
 repeat' (first | (refine CallX.of (z158 (l.getD (i : Int).toNat veh0) key) [(1000001, 1000001)] rfl ⟨lr, lr, trivial⟩ ⟨rr, trivial⟩ rfl rfl ?_; rintro x rout ⟨rfl, rfl⟩; refine ⟨rfl, ?_⟩; conv => whnf) | (refine br_intro ?_ ?_ <;> intro hb <;> (try simp only [brs] at hb) <;> conv => whnf) | omega | (refine And.intro ?_ ?_; ((try dsimp only); first | omega | (refine szA rfl ?_; omega) | (refine szB rfl ?_; omega) | (unfold inI64; omega) | exact rfl | (simp only [lns] at *; omega) | decide | (unfold inI64; decide)); conv => whnf) | decide | assumption)
 · refine .ret _ ?_
   conv => whnf
   refine ⟨[(1000001, kyC key)], ⟨?_, rfl⟩, rr, trivial⟩
   conv => lhs; whnf
   congr 2
   exact (ixF_hit (by omega) p2 (by simpa using hb)).symm
 · exact ⟨i + 1, ⟨by omega, all_step p2 (by simpa using hb)⟩, by omega, (by (refine Entails.mk' [(1000001, 1000001)] rfl rfl ?_ ?_ <;> repeat' (first | exact True.intro | exact lr | exact rr | exact SV.le_int (by omega) | exact SV.le_any _ | refine And.intro ?_ ?_)); done)⟩
 · refine .ret _ ?_
   conv => whnf
   refine ⟨[(1000001, kyC key)], ⟨?_, rfl⟩, rr, trivial⟩
   conv => lhs; whnf
   congr 2
   have : i = l.length := by omega
   subst this
   exact (ixF_none p2).symm
theorem z84 (l : List Cls) (hl : l.length ≤ 2^40) (key : List UInt8) : FSpec Tryz.prog 84 [.d (clss l), .d (.str key)] [] (fun x r => x = .d (.int .i64 (clIx l key)) ∧ r = []) := by
 refine spec_of hT (C := []) Tryz.func84 rfl Tryz.call84 rfl rfl rfl ?_
 conv => whnf
 refine CallX.of (z155a l hl key) [(1000001, 3)] rfl ⟨lr, lr, trivial⟩ ⟨rr, trivial⟩ rfl rfl ?_
 rintro x rout ⟨rfl, rfl⟩
 refine ⟨rfl, ?_⟩
 conv => whnf
 refine .ret _ ?_
 conv => whnf
 refine ⟨[], ⟨?_, rfl⟩, trivial⟩
 conv => lhs; whnf
theorem z176 (l : List Cls) (hl : l.length ≤ 2^40) (key : List UInt8) : FSpec Tryz.prog 176 [.d (clss l), .d (.str key)] [] (fun x r => x = .d (.int .i64 (clIx l key)) ∧ r = []) := by
 refine spec_of hT (C := []) Tryz.func176 rfl Tryz.call176 rfl rfl rfl ?_
 conv => whnf
 refine CallX.of (z155b l hl key) [(1000001, 3)] rfl ⟨lr, lr, trivial⟩ ⟨rr, trivial⟩ rfl rfl ?_
 rintro x rout ⟨rfl, rfl⟩
 refine ⟨rfl, ?_⟩
 conv => whnf
 refine .ret _ ?_
 conv => whnf
 refine ⟨[], ⟨?_, rfl⟩, trivial⟩
 conv => lhs; whnf
structure Flt where
 sta : List Sta
 cls : List Cls
 veh : List Veh
 plt : List Plt
abbrev flt (f : Flt) : SV := .agg [.d (stas f.sta), .d (clss f.cls), .d (vehs f.veh), .d (plts f.plt)]
theorem z85 (f : Flt) (hl : f.veh.length ≤ 2^40) (key : List UInt8) : FSpec Tryz.prog 85 [flt f, .d (.str key)] [] (fun x r => x = .d (.int .i64 (veIx f.veh key)) ∧ r = []) := by
 refine spec_of hT (C := []) Tryz.func85 rfl Tryz.call85 rfl rfl rfl ?_
 conv => whnf
 refine CallX.of (z157 f.veh hl key) [(1000001, 3)] rfl ⟨lr, lr, trivial⟩ ⟨rr, trivial⟩ rfl rfl ?_
 rintro x rout ⟨rfl, rfl⟩
 refine ⟨rfl, ?_⟩
 conv => whnf
 refine .ret _ ?_
 conv => whnf
 refine ⟨[], ⟨?_, rfl⟩, trivial⟩
 conv => lhs; whnf
theorem clIx_bd (l : List Cls) (key : List UInt8) : -1 ≤ clIx l key ∧ clIx l key < l.length := ⟨ixF_bd.1, ixF_bd.2.1⟩
theorem clIx_at {l : List Cls} {key : List UInt8} (h : 0 ≤ clIx l key) : (l.getD (clIx l key).toNat cls0).key = key := by
 have := (ixF_bd (p := fun i => (l.getD i cls0).key == key) (n := l.length)).2.2 h
 exact eq_of_beq this
def upC (l : List Cls) (key : List UInt8) : List UInt8 := (l.getD (clIx l key).toNat cls0).up
def abv (l : List Cls) : Nat → List UInt8 → List (List UInt8)
 | 0, _ => []
 | n + 1, key => if upC l key = [] then [] else upC l key :: abv l n (upC l key)
theorem abv_len (l : List Cls) : ∀ (n : Nat) (key : List UInt8), (abv l n key).length ≤ n := by
 intro n
 induction n with
 | zero => intro key; simp [abv]
 | succ n ih => intro key; rw [abv]; split; simp; simp; exact ih _
def upsOk (l : List Cls) : Prop := (∀ c ∈ l, c.up ≠ [] → 0 ≤ clIx l c.up)
theorem z241 (l : List Cls) (hl : l.length ≤ 2^20) (hu : upsOk l) (key : List UInt8) (hk : 0 ≤ clIx l key) :
 FSpec Tryz.prog 241 [.d (clss l), .d (.str key)] [] (fun x r => x = .d (strs (abv l l.length key)) ∧ r = []) := by
 refine spec_of hT (C := []) Tryz.func241 rfl Tryz.call241 rfl rfl rfl ?_
 conv => whnf
 refine LoopX.rule hT (C := []) (ι := List (List UInt8) × List UInt8 × Nat) (fun (o, k, i) => i ≤ l.length ∧ o.length ≤ i ∧ 0 ≤ clIx l k ∧ o ++ abv l (l.length - i) k = abv l l.length key)
  (fun (o, k, i) => mkSt [(0, .d (clss l)), (1, .d (.str k)), (5, .buf 5), (7, .d (.int .i64 l.length)), (8, .d (.int .i64 i))] [(5, seqB 9 1 sF [] o)])
  (fun (_, _, i) => l.length - i) ([], key, 0) ⟨by simp, by simp, hk, by simp⟩ ?_ ?_
 · exact (Entails.nil 5 5 9 1 (rowF sF [] []) rfl rfl (by decide)).trans (Entails.mk' [(5, 5)] rfl rfl ⟨lr, lr, lr, lr, lr, trivial⟩ ⟨rr, trivial⟩)
 rintro ⟨o, k, i⟩ ⟨p1, p2, p3, p4⟩
 have p1 : i ≤ l.length := p1
 have p2 : o.length ≤ i := p2
 have p3 : 0 ≤ clIx l k := p3
 have p4 : o ++ abv l (l.length - i) k = abv l l.length key := p4
 have hb1 := (clIx_bd l k).2
 conv => whnf
 repeat' (first | (refine CallX.exact (z176 l (by omega) k) rfl rfl ?_; rotate_right; conv => whnf) | (refine br_intro ?_ ?_ <;> intro hb <;> (try simp only [brs] at hb) <;> conv => whnf) | omega | (refine And.intro ?_ ?_; ((try dsimp only); first | omega | (refine szA rfl ?_; omega) | (refine szB rfl ?_; omega) | (unfold inI64; omega) | exact rfl | (simp only [lns] at *; omega) | decide | (unfold inI64; decide)); conv => whnf) | decide | assumption)
 · refine .freeze _ 5 9 1 _ _ rfl (.weak _ ?_)
   conv => whnf
   refine ⟨.d (strs o), [], lr, ⟨?_, rfl⟩, trivial⟩
   rw [← p4, show l.length - i = (l.length - i - 1) + 1 by omega, abv, if_pos (show upC l k = [] from hb), List.append_nil]
 · have hm : (l.getD (clIx l k).toNat cls0) ∈ l := getD_mem (by omega)
   refine ⟨(o ++ [upC l k], upC l k, i + 1), ⟨by omega, by simp; omega, hu _ hm hb, ?_⟩, by show l.length - (i + 1) < l.length - i; omega,
    Entails.mk' [(5, 22)] rfl rfl ⟨lr, lr, lr, lr, lr, trivial⟩ ⟨Res.le_snocF rfl, trivial⟩⟩
   rw [← p4, show l.length - i = (l.length - (i + 1)) + 1 by omega, abv, if_neg (show ¬ upC l k = [] from hb), List.append_assoc]
   rfl
 · refine .freeze _ 5 9 1 _ _ rfl (.weak _ ?_)
   conv => whnf
   refine ⟨.d (strs o), [], lr, ⟨?_, rfl⟩, trivial⟩
   rw [← p4, show l.length - i = 0 by omega, abv, List.append_nil]
theorem z154 (l : List Cls) (hl : l.length ≤ 2^20) (hu : upsOk l) (key : List UInt8) (hk : 0 ≤ clIx l key) :
 FSpec Tryz.prog 154 [.d (clss l), .d (.str key)] [] (fun x r => x = .d (strs (abv l (l.length + 1) key)) ∧ r = []) := by
 refine spec_of hT (C := []) Tryz.func154 rfl Tryz.call154 rfl rfl rfl ?_
 conv => whnf
 repeat' (first | (refine CallX.exact (z84 l (by omega) key) rfl rfl ?_; rotate_right; conv => whnf) | (refine br_intro ?_ ?_ <;> intro hb <;> (try simp only [brs] at hb) <;> conv => whnf) | omega | (refine And.intro ?_ ?_; ((try dsimp only); first | omega | (refine szA rfl ?_; omega) | (refine szB rfl ?_; omega) | (unfold inI64; omega) | exact rfl | (simp only [lns] at *; omega) | decide | (unfold inI64; decide)); conv => whnf) | decide | assumption)
 refine LoopX.rule hT (C := []) (ι := List (List UInt8) × List UInt8) (fun (o, k) => o.length ≤ l.length + 1 ∧ 0 ≤ clIx l k ∧ o ++ abv l (l.length + 1 - o.length) k = abv l (l.length + 1) key)
  (fun (o, k) => mkSt [(0, .d (clss l)), (5, .buf 5), (6, .d (.int .i64 (clIx l k)))] [(5, seqB 9 1 sF [] o)])
  (fun (o, _) => l.length + 1 - o.length) ([], key) ⟨by simp, hk, by simp⟩ ?_ ?_
 · exact (Entails.nil 5 5 9 1 (rowF sF [] []) rfl rfl (by decide)).trans (Entails.mk' [(5, 5)] rfl rfl ⟨lr, lr, lr, trivial⟩ ⟨rr, trivial⟩)
 rintro ⟨o, k⟩ ⟨p1, p3, p4⟩
 have p1 : o.length ≤ l.length + 1 := p1
 have p3 : 0 ≤ clIx l k := p3
 have p4 : o ++ abv l (l.length + 1 - o.length) k = abv l (l.length + 1) key := p4
 have hb1 := (clIx_bd l k).2
 conv => whnf
 repeat' (first | (refine CallX.exact (z84 l (by omega) (upC l k)) rfl rfl ?_; rotate_right; conv => whnf) | (refine br_intro ?_ ?_ <;> intro hb <;> (try simp only [brs] at hb) <;> conv => whnf) | omega | (refine And.intro ?_ ?_; ((try dsimp only); first | omega | (refine szA rfl ?_; omega) | (refine szB rfl ?_; omega) | (unfold inI64; omega) | exact rfl | (simp only [lns] at *; omega) | decide | (unfold inI64; decide)); conv => whnf) | decide | assumption)
 · have hm : (l.getD (clIx l k).toNat cls0) ∈ l := getD_mem (by omega)
   have hn : ¬ (l.getD (clIx l k).toNat cls0).up = [] := by assumption
   refine ⟨(o ++ [upC l k], upC l k), ⟨by simp; omega, hu _ hm hn, ?_⟩, by show l.length + 1 - (o ++ [upC l k]).length < l.length + 1 - o.length; simp; omega,
    Entails.mk' [(5, 41)] rfl rfl ⟨lr, lr, lr, trivial⟩ ⟨Res.le_snocF rfl, trivial⟩⟩
   rw [← p4, show l.length + 1 - o.length = (l.length - o.length) + 1 by omega, abv, if_neg (show ¬ upC l k = [] from hn), List.append_assoc, List.length_append, show l.length + 1 - (o.length + [upC l k].length) = l.length - o.length from by simp]
   rfl
 · refine .freeze _ 5 9 1 _ _ rfl (.weak _ ?_)
   conv => whnf
   refine ⟨.d (strs o), [], lr, ⟨?_, rfl⟩, trivial⟩
   rw [← p4, show l.length + 1 - o.length = 0 by omega, abv, List.append_nil]
 · refine .freeze _ 5 9 1 _ _ rfl (.weak _ ?_)
   conv => whnf
   refine ⟨.d (strs o), [], lr, ⟨?_, rfl⟩, trivial⟩
   rw [← p4]
   cases hq : l.length + 1 - o.length with
   | zero => rw [abv, List.append_nil]
   | succ m => rw [abv, if_pos (show upC l k = [] from hb), List.append_nil]
theorem z208 (l : List (List UInt8)) (hl : l.length ≤ 2^40) (v : List UInt8) : FSpec Tryz.prog 208 [.d (strs l), .d (.str v)] [] (fun x r => x = .d (.int .i64 (ixF (fun i => l.getD i [] == v) l.length)) ∧ r = []) := by
 refine spec_of hT (C := []) Tryz.func208 rfl Tryz.call208 rfl rfl rfl ?_
 conv => whnf
 refine LoopX.rule hT (C := []) (ι := Nat) (fun i => i ≤ l.length ∧ ∀ j, j < i → (l.getD j [] == v) = false) (fun i => mkSt [(0, .d (strs l)), (1, .d (.str v)), (7, .d (.int .i64 l.length)), (8, .d (.int .i64 i))] []) (fun i => l.length - i) 0 ⟨by omega, by omega⟩ (by (refine Entails.mk' [] rfl rfl ?_ ?_ <;> repeat' (first | exact True.intro | exact lr | exact rr | exact SV.le_int (by omega) | exact SV.le_any _ | refine And.intro ?_ ?_)); done) ?_
 rintro i ⟨p1, p2⟩
 have e1 : (i : Int).toNat = i := Int.toNat_natCast i
 conv => whnf
 repeat' (first | (refine br_intro ?_ ?_ <;> intro hb <;> (try simp only [brs] at hb) <;> conv => whnf) | omega | (refine And.intro ?_ ?_; ((try dsimp only); first | omega | (refine szA rfl ?_; omega) | (refine szB rfl ?_; omega) | (unfold inI64; omega) | exact rfl | (simp only [lns] at *; omega) | decide | (unfold inI64; decide)); conv => whnf) | decide | assumption)
 · refine .ret _ ?_
   conv => whnf
   refine ⟨[], ⟨?_, rfl⟩, trivial⟩
   conv => lhs; whnf
   congr 2
   exact (ixF_hit (by omega) p2 (by rw [← hb]; simp)).symm
 · exact ⟨i + 1, ⟨by omega, all_step p2 (beq_eq_false_iff_ne.2 fun q => hb q.symm)⟩, by omega, (by (refine Entails.mk' [] rfl rfl ?_ ?_ <;> repeat' (first | exact True.intro | exact lr | exact rr | exact SV.le_int (by omega) | exact SV.le_any _ | refine And.intro ?_ ?_)); done)⟩
 · refine .ret _ ?_
   conv => whnf
   refine ⟨[], ⟨?_, rfl⟩, trivial⟩
   conv => lhs; whnf
   congr 2
   have : i = l.length := by omega
   subst this
   exact (ixF_none p2).symm
theorem ix_mem (l : List (List UInt8)) (v : List UInt8) : decide (0 ≤ ixF (fun i => l.getD i [] == v) l.length) = decide (v ∈ l) := by
 rw [decide_eq_decide]
 constructor
 · intro h
   have := ixF_bd (p := fun i => l.getD i [] == v) (n := l.length)
   rw [← eq_of_beq (this.2.2 h)]
   exact getD_mem (by omega)
 · intro h
   obtain ⟨j, hj, rfl⟩ := mem_getD (d := []) h
   exact ixF_pos hj (by simp)
theorem z153 (l : List (List UInt8)) (hl : l.length ≤ 2^40) (v : List UInt8) : FSpec Tryz.prog 153 [.d (strs l), .d (.str v)] [] (fun x r => x = .d (.bool (decide (v ∈ l))) ∧ r = []) := by
 refine spec_of hT (C := []) Tryz.func153 rfl Tryz.call153 rfl rfl rfl ?_
 conv => whnf
 repeat' (first | (refine CallX.exact (z208 l hl v) rfl rfl ?_; rotate_right; conv => whnf) | (refine br_intro ?_ ?_ <;> intro hb <;> (try simp only [brs] at hb) <;> conv => whnf) | omega | (refine And.intro ?_ ?_; ((try dsimp only); first | omega | (refine szA rfl ?_; omega) | (refine szB rfl ?_; omega) | (unfold inI64; omega) | exact rfl | (simp only [lns] at *; omega) | decide | (unfold inI64; decide)); conv => whnf) | decide | assumption)
 refine .ret _ ?_
 conv => whnf
 refine ⟨[], ⟨?_, rfl⟩, trivial⟩
 conv => lhs; whnf
 rw [← ix_mem]
def itU (l : List Cls) : Nat → List UInt8 → List UInt8
 | 0, k => k
 | n + 1, k => itU l n (upC l k)
theorem itU_add (l : List Cls) : ∀ (a b : Nat) (k : List UInt8), itU l (a + b) k = itU l b (itU l a k) := by
 intro a
 induction a with
 | zero => intro b k; rw [Nat.zero_add]; rfl
 | succ a ih => intro b k; rw [show a + 1 + b = (a + b) + 1 by omega, itU, ih, itU]
theorem abv_mem (l : List Cls) : ∀ (n : Nat) (k v : List UInt8), v ∈ abv l n k ↔ ∃ j, j < n ∧ itU l (j + 1) k = v ∧ ∀ i, i ≤ j → itU l (i + 1) k ≠ [] := by
 intro n
 induction n with
 | zero => intro k v; simp [abv]
 | succ n ih =>
   intro k v
   rw [abv]
   by_cases h : upC l k = []
   · rw [if_pos h]
     constructor
     · intro q; cases q
     · rintro ⟨j, _, _, h3⟩
       exact absurd h (h3 0 (by omega))
   · rw [if_neg h, List.mem_cons, ih]
     constructor
     · rintro (rfl | ⟨j, h1, h2, h3⟩)
       · exact ⟨0, by omega, rfl, fun i hi => by obtain rfl : i = 0 := by omega
                                                 exact h⟩
       · refine ⟨j + 1, by omega, h2, fun i hi => ?_⟩
         cases i with
         | zero => exact h
         | succ i => exact h3 i (by omega)
     · rintro ⟨j, h1, h2, h3⟩
       cases j with
       | zero => exact .inl h2.symm
       | succ j => exact .inr ⟨j, by omega, h2, fun i hi => h3 (i + 1) (by omega)⟩
theorem nodupG {α : Type} {l m : List α} (h : l.Nodup) (hs : ∀ x ∈ l, x ∈ m) : l.length ≤ m.length := by
 induction l generalizing m with
 | nil => simp
 | cons x l ih =>
   rw [List.nodup_cons] at h
   obtain ⟨a, b, rfl⟩ := List.append_of_mem (hs x (by simp))
   have := ih (m := a ++ b) h.2 (fun y hy => by
    have q := hs y (by simp [hy])
    simp only [List.mem_append, List.mem_cons] at q ⊢
    rcases q with q | q | q
    · exact .inl q
    · subst q; exact absurd hy h.1
    · exact .inr q)
   simp at this ⊢; omega
theorem clIx_mem {l : List Cls} {k : List UInt8} (h : 0 ≤ clIx l k) : k ∈ l.map (·.key) := by
 rw [← clIx_at h]
 exact List.mem_map_of_mem (getD_mem (by have := (clIx_bd l k).2; omega))
theorem itU_in {l : List Cls} (hu : upsOk l) {k : List UInt8} (hk : 0 ≤ clIx l k) : ∀ (j : Nat), (∀ i, i < j → itU l (i + 1) k ≠ []) → 0 ≤ clIx l (itU l j k) := by
 intro j
 induction j with
 | zero => intro _; exact hk
 | succ j ih =>
   intro h
   have h1 := ih (fun i hi => h i (by omega))
   have h2 := h j (by omega)
   have e : itU l (j + 1) k = upC l (itU l j k) := by rw [itU_add]; rfl
   rw [e] at h2 ⊢
   exact hu _ (getD_mem (by have := (clIx_bd l (itU l j k)).2; omega)) h2
theorem loop_eq {l : List Cls} (hu : upsOk l) {k : List UInt8} (hk : 0 ≤ clIx l k) : k ∈ abv l (l.length + 1) k ↔ k ∈ abv l l.length k := by
 rw [abv_mem, abv_mem]
 constructor
 · rintro ⟨j, h1, h2, h3⟩
   by_cases hj : j < l.length
   · exact ⟨j, hj, h2, h3⟩
   · have hj : j = l.length := by omega
     subst hj
     by_cases hex : ∃ j', j' < l.length ∧ itU l (j' + 1) k = k
     · obtain ⟨j', q1, q2⟩ := hex
       exact ⟨j', q1, q2, fun i hi => h3 i (by omega)⟩
     · exfalso
       have hnd : ((List.range (l.length + 1)).map fun j => itU l j k).Nodup := by
        rw [List.nodup_iff_pairwise_ne, List.pairwise_map]
        refine List.Pairwise.imp_of_mem ?_ List.pairwise_lt_range
        intro a b ha hb hab he
        rw [List.mem_range] at ha hb
        refine hex ⟨a + (l.length + 1 - b) - 1, by omega, ?_⟩
        rw [show a + (l.length + 1 - b) - 1 + 1 = a + (l.length + 1 - b) by omega, itU_add, he, ← itU_add, show b + (l.length + 1 - b) = l.length + 1 by omega]
        exact h2
       have := nodupG (m := l.map (·.key)) hnd (fun x hx => by
        obtain ⟨j, hj, rfl⟩ := List.mem_map.1 hx
        rw [List.mem_range] at hj
        exact clIx_mem (itU_in hu hk j (fun i hi => h3 i (by omega))))
       simp at this
       omega
 · rintro ⟨j, h1, h2, h3⟩
   exact ⟨j, by omega, h2, h3⟩
theorem clIx_pos {l : List Cls} {c : Cls} (h : c ∈ l) : 0 ≤ clIx l c.key := by
 obtain ⟨j, hj, rfl⟩ := mem_getD (d := cls0) h
 exact ixF_pos hj (by simp)
def clsE1 (l : List Cls) (i : Nat) : Int :=
 if isKeyB (l.getD i cls0).key = false then 5 else if 0 < i ∧ strLe (l.getD i cls0).key (l.getD (i - 1) cls0).key = true then 7
 else if (l.getD i cls0).up ≠ [] ∧ isKeyB (l.getD i cls0).up = false then 5 else 0
def clsE2 (l : List Cls) (i : Nat) : Int := if (l.getD i cls0).up ≠ [] ∧ clIx l (l.getD i cls0).up < 0 then 8 else 0
def clsE3 (l : List Cls) (i : Nat) : Int := if (l.getD i cls0).key ∈ abv l l.length (l.getD i cls0).key then 14 else 0
def clssE (l : List Cls) : Int := if 30 < l.length then 2 else firstE [firstAt (clsE1 l) l.length, firstAt (clsE2 l) l.length, firstAt (clsE3 l) l.length]
def clsOk (l : List Cls) : Prop := l.length ≤ 2^20 ∧ ∀ c ∈ l, c.key.length ≤ 2^40 ∧ c.up.length ≤ 2^40
theorem z44 (s : List UInt8) (hl : s.length ≤ 2^40) : FSpec Tryz.prog 44 [.d (.str s)] [] (fun x r => x = .d (.bool (isPlateB s)) ∧ r = []) := by
 refine spec_of hT (C := []) Tryz.func44 rfl Tryz.call44 rfl rfl rfl ?_
 conv => whnf
 repeat' (first | (refine CallX.exact (s110 _ _ _) rfl rfl ?_; rotate_right; conv => whnf) | (refine CallX.exact (s111 s plateL hl ?_ ?_) rfl rfl ?_; rotate_right; conv => whnf) | (refine br_intro ?_ ?_ <;> intro hb <;> (try simp only [brs] at hb) <;> conv => whnf) | omega | (refine And.intro ?_ ?_; ((try dsimp only); first | omega | (refine szA rfl ?_; omega) | (refine szB rfl ?_; omega) | (unfold inI64; omega) | exact rfl | (simp only [lns] at *; omega) | decide | (unfold inI64; decide)); conv => whnf) | decide | assumption)
 all_goals try (simp; omega)
 all_goals
  refine .ret _ ?_
  conv => whnf
  refine ⟨[], ⟨?_, rfl⟩, trivial⟩
  conv => lhs; whnf
  rw [plate_eq]; congr 2; grind
theorem z159 (n : Int) : FSpec Tryz.prog 159 [.d (.int .i64 n)] [] (fun x r => x = .d (.int .i64 (cmpI n 0)) ∧ r = []) := by
 refine spec_of hT (C := []) Tryz.func159 rfl Tryz.call159 rfl rfl rfl ?_
 conv => whnf
 repeat' (first | (refine br_intro ?_ ?_ <;> intro hb <;> (try simp only [brs] at hb) <;> conv => whnf) | omega | (refine And.intro ?_ ?_; ((try dsimp only); first | omega | (refine szA rfl ?_; omega) | (refine szB rfl ?_; omega) | (unfold inI64; omega) | exact rfl | (simp only [lns] at *; omega) | decide | (unfold inI64; decide)); conv => whnf) | decide | assumption)
 all_goals
  refine .ret _ ?_
  conv => whnf
  refine ⟨[], ⟨?_, rfl⟩, trivial⟩
  conv => lhs; whnf
  congr 2; unfold cmpI; grind
def pltCmp (a b : Plt) : Int := firstE [cmpI a.frm b.frm, cmpS a.veh b.veh, cmpS a.plt b.plt]
theorem pltCmp_eq (a b : Plt) : pltCmp a b = if a.frm ≠ b.frm then cmpI (a.frm - b.frm) 0 else cmpL [a.veh, a.plt] [b.veh, b.plt] := by
 simp only [pltCmp, cmpL, firstE]
 have e1 : cmpI (a.frm - b.frm) 0 = cmpI a.frm b.frm := by unfold cmpI; grind
 have e2 : cmpI a.frm b.frm = 0 ↔ a.frm = b.frm := by unfold cmpI; grind
 rw [e1]
 grind
theorem z86 (a b : Plt) (ha : -2^40 ≤ a.frm ∧ a.frm ≤ 2^40) (hb : -2^40 ≤ b.frm ∧ b.frm ≤ 2^40) : FSpec Tryz.prog 86 [.agg ((pltF a).map .d), .agg ((pltF b).map .d)] [] (fun x r => x = .d (.int .i64 (pltCmp a b)) ∧ r = []) := by
 refine spec_of hT (C := []) Tryz.func86 rfl Tryz.call86 rfl rfl rfl ?_
 conv => whnf
 repeat' (first | (refine CallX.exact (z159 _) rfl rfl ?_; rotate_right; conv => whnf) | (refine CallX.pure (s169 [_, _] [_, _] (by simp) (by simp)) ⟨SV.le_lit (by rfl) (by rfl), SV.le_lit (by rfl) (by rfl), trivial⟩ rfl ?_; conv => whnf) | (refine br_intro ?_ ?_ <;> intro hb <;> (try simp only [brs] at hb) <;> conv => whnf) | omega | (refine And.intro ?_ ?_; ((try dsimp only); first | omega | (refine szA rfl ?_; omega) | (refine szB rfl ?_; omega) | (unfold inI64; omega) | exact rfl | (simp only [lns] at *; omega) | decide | (unfold inI64; decide)); conv => whnf) | decide | assumption)
 all_goals
  refine .ret _ ?_
  conv => whnf
  refine ⟨[], ⟨?_, rfl⟩, trivial⟩
  conv => lhs; whnf
  congr 2
  rw [pltCmp_eq]; grind
def pltC (p : Plt) : Res := .cells 126 ((pltF p).map .d)
def twP (p o : Plt) : Bool := decide (o.frm = p.frm) && (o.veh == p.veh || o.plt == p.plt)
theorem z88 (o p : Plt) : FSpec Tryz.prog 88 [.agg ((pltF o).map .d), .ptr 1000001 0] [(1000001, pltC p)] (fun y r => y = .d (.bool (twP p o)) ∧ r = [(1000001, pltC p)]) := by
 refine spec_of hT (C := []) Tryz.func88 rfl Tryz.call88 rfl rfl rfl ?_
 conv => whnf
 repeat' (first | (refine br_intro ?_ ?_ <;> intro hb <;> (try simp only [brs] at hb) <;> conv => whnf) | omega | (refine And.intro ?_ ?_; ((try dsimp only); first | omega | (refine szA rfl ?_; omega) | (refine szB rfl ?_; omega) | (unfold inI64; omega) | exact rfl | (simp only [lns] at *; omega) | decide | (unfold inI64; decide)); conv => whnf) | decide | assumption)
 all_goals
  refine .ret _ ?_
  conv => whnf
  refine ⟨[(1000001, pltC p)], ⟨?_, rfl⟩, rr, trivial⟩
  conv => lhs; whnf
  unfold twP
  congr 2
  first | grind | simp_all
theorem z161 (l : List Plt) (hl : l.length ≤ 2^40) (p : Plt) : FSpec Tryz.prog 161 [.d (plts l), .fn 88 [.ptr 1000001 0]] [(1000001, pltC p)] (fun x r => x = .d (.int .i64 (ixF (fun i => twP p (l.getD i plt0)) l.length)) ∧ r = [(1000001, pltC p)]) := by
 refine spec_of hT (C := []) Tryz.func161 rfl Tryz.call161 rfl rfl rfl ?_
 conv => whnf
 refine LoopX.rule hT (C := []) (ι := Nat) (fun i => i ≤ l.length ∧ ∀ j, j < i → twP p (l.getD j plt0) = false) (fun i => mkSt [(0, .d (plts l)), (1, .fn 88 [.ptr 1000001 0]), (7, .d (.int .i64 l.length)), (8, .d (.int .i64 i))] [(1000001, pltC p)]) (fun i => l.length - i) 0 ⟨by omega, by omega⟩ (by (refine Entails.mk' [(1000001, 1000001)] rfl rfl ?_ ?_ <;> repeat' (first | exact True.intro | exact lr | exact rr | exact SV.le_int (by omega) | exact SV.le_any _ | refine And.intro ?_ ?_)); done) ?_
 rintro i ⟨p1, p2⟩
 have e1 : (i : Int).toNat = i := Int.toNat_natCast i
 conv => whnf
 repeat' (first | (refine CallX.of (z88 (l.getD (i : Int).toNat plt0) p) [(1000001, 1000001)] rfl ⟨lr, lr, trivial⟩ ⟨rr, trivial⟩ rfl rfl ?_; rintro x rout ⟨rfl, rfl⟩; refine ⟨rfl, ?_⟩; conv => whnf) | (refine br_intro ?_ ?_ <;> intro hb <;> (try simp only [brs] at hb) <;> conv => whnf) | omega | (refine And.intro ?_ ?_; ((try dsimp only); first | omega | (refine szA rfl ?_; omega) | (refine szB rfl ?_; omega) | (unfold inI64; omega) | exact rfl | (simp only [lns] at *; omega) | decide | (unfold inI64; decide)); conv => whnf) | decide | assumption)
 · refine .ret _ ?_
   conv => whnf
   refine ⟨[(1000001, pltC p)], ⟨?_, rfl⟩, rr, trivial⟩
   conv => lhs; whnf
   congr 2
   exact (ixF_hit (by omega) p2 (by simpa using hb)).symm
 · exact ⟨i + 1, ⟨by omega, all_step p2 (by simpa using hb)⟩, by omega, (by (refine Entails.mk' [(1000001, 1000001)] rfl rfl ?_ ?_ <;> repeat' (first | exact True.intro | exact lr | exact rr | exact SV.le_int (by omega) | exact SV.le_any _ | refine And.intro ?_ ?_)); done)⟩
 · refine .ret _ ?_
   conv => whnf
   refine ⟨[(1000001, pltC p)], ⟨?_, rfl⟩, rr, trivial⟩
   conv => lhs; whnf
   congr 2
   have : i = l.length := by omega
   subst this
   exact (ixF_none p2).symm
theorem ix_any {α : Type} (l : List α) (d : α) (q : α → Bool) : decide (0 ≤ ixF (fun i => q (l.getD i d)) l.length) = l.any q := by
 rw [Bool.eq_iff_iff, decide_eq_true_eq, List.any_eq_true]
 constructor
 · intro h
   have := ixF_bd (p := fun i => q (l.getD i d)) (n := l.length)
   exact ⟨_, getD_mem (by omega), this.2.2 h⟩
 · rintro ⟨x, hx, hq⟩
   obtain ⟨j, hj, rfl⟩ := mem_getD (d := d) hx
   exact ixF_pos hj hq
theorem z87 (l : List Plt) (hl : l.length ≤ 2^40) (p : Plt) : FSpec Tryz.prog 87 [.d (plts l), .fn 88 [.ptr 1000001 0]] [(1000001, pltC p)] (fun x r => x = .d (.bool (l.any (twP p))) ∧ r = [(1000001, pltC p)]) := by
 refine spec_of hT (C := []) Tryz.func87 rfl Tryz.call87 rfl rfl rfl ?_
 conv => whnf
 repeat' (first | (refine CallX.of (z161 l hl p) [(1000001, 1000001)] rfl ⟨lr, lr, trivial⟩ ⟨rr, trivial⟩ rfl rfl ?_; rintro x rout ⟨rfl, rfl⟩; refine ⟨rfl, ?_⟩; conv => whnf) | (refine br_intro ?_ ?_ <;> intro hb <;> (try simp only [brs] at hb) <;> conv => whnf) | omega | (refine And.intro ?_ ?_; ((try dsimp only); first | omega | (refine szA rfl ?_; omega) | (refine szB rfl ?_; omega) | (unfold inI64; omega) | exact rfl | (simp only [lns] at *; omega) | decide | (unfold inI64; decide)); conv => whnf) | decide | assumption)
 refine .ret _ ?_
 conv => whnf
 refine ⟨[(1000001, pltC p)], ⟨?_, rfl⟩, rr, trivial⟩
 conv => lhs; whnf
 rw [← ix_any l plt0]
def staC (s : Sta) : Res := .cells 121 ((staF s).map .d)
def setH (s : Sta) (k : Nat) (x y : Int) : Sta := { s with h := fun j => if j = 2 * k then x else if j = 2 * k + 1 then y else s.h j }
set_option maxHeartbeats 4000000 in
theorem sStas (n : Nat) (L : Nat → Int) (hL : Rok n L) (a : Int) (h0 : 0 ≤ a) (ha : a ≤ 2^36) :
 FSpec Tryz.prog 135 [.ptr 1000000 0] [(1000000, strm n L a)] (fun y r => ∃ l : List Sta, ∃ b, allK staK 3 l ∧ (a ≤ b ∧ b ≤ a + 300) ∧ y = .buf 3 ∧ r = [(3, seqB 121 15 staF sta0 l), (1000000, strm n L b)]) := by
 refine spec_of hT (C := []) Tryz.func135 rfl Tryz.call135 rfl rfl rfl ?_
 conv => whnf
 refine LoopX.rule hT (C := []) (ι := Int × List Sta × Nat) (fun (b, l, i) => (a ≤ b ∧ b ≤ a + 100 * i ∧ i ≤ 3) ∧ allK staK i l)
  (fun (b, l, i) => mkSt [(0, .ptr 1000000 0), (3, .buf 3), (9, .d (strs [[115, 49], [115, 50], [115, 51]])), (10, .d (.int .i64 3)), (11, .d (.int .i64 i))] [(1000000, strm n L b), (3, seqB 121 15 staF sta0 l)])
  (fun (_, _, i) => 3 - i) (a, [], 0) ⟨⟨by simp, by simp, by simp⟩, ⟨by simp, by simp⟩⟩ ?_ ?_
 · refine (Entails.nil 3 3 121 15 (rowF staF sta0 []) rfl rfl (by decide)).trans (Entails.mk' [(1000000, 1000000), (3, 3)] rfl rfl ⟨lr, lr, SV.le_lit rfl rfl, lr, lr, trivial⟩ ⟨rr, rr, trivial⟩)
 rintro ⟨b, l, i⟩ ⟨⟨p1, p2, p3⟩, p4⟩
 have p1 : a ≤ b := p1
 have p2 : b ≤ a + 100 * i := p2
 have p3 : i ≤ 3 := p3
 have p4 : allK staK i l := p4
 have hl1 : l.length ≤ i := p4.1
 have e1 : (i : Int).toNat = i := Int.toNat_natCast i
 conv => whnf
 repeat' (first | (refine CallX.of (s84 n L hL _ ?_ ?_ 5 ?_) [(1000000, 1000000)] rfl ⟨lr, lr, trivial⟩ ⟨rr, trivial⟩ rfl rfl ?_; rotate_right; rintro x rout ⟨⟨w, rfl⟩, ⟨c, c1, c2, rfl⟩⟩; refine ⟨rfl, ?_⟩; conv => whnf) | (refine br_intro ?_ ?_ <;> intro hb <;> (try simp only [brs] at hb) <;> conv => whnf) | omega | (refine And.intro ?_ ?_; ((try dsimp only); first | omega | (refine szA rfl ?_; omega) | (refine szB rfl ?_; omega) | (unfold inI64; omega) | exact rfl | (simp only [lns] at *; omega) | decide | (unfold inI64; decide)); conv => whnf) | decide | assumption)
 · exact ⟨(c, l, i + 1), ⟨⟨by omega, by show _ ≤ a + 100 * ((i + 1 : Nat) : Int); omega, by omega⟩, allK_le p4 (by omega)⟩, by show 3 - (i + 1) < 3 - i; omega, (by (refine Entails.mk' [(1000000, 1000000), (3, 3)] rfl rfl ?_ ?_ <;> repeat' (first | exact True.intro | exact lr | exact rr | exact SV.le_int (by omega) | exact SV.le_any _ | refine And.intro ?_ ?_)); done)⟩
 · have hkk : (([[115, 49], [115, 50], [115, 51]] : List (List UInt8)).getD (i : Int).toNat []).length ≤ 8 := mem_len (getD_mem (by show (i : Int).toNat < 3; omega)) rfl
   obtain ⟨cc, rfl⟩ : ∃ cc : Int, cc = c := ⟨_, rfl⟩
   obtain ⟨ky, hky⟩ : ∃ ky, ky = ([[115, 49], [115, 50], [115, 51]] : List (List UInt8)).getD (i : Int).toNat [] := ⟨_, rfl⟩
   refine LoopX.rule hT (C := []) (ι := Int × Sta × Nat) (fun (d, s, k) => (cc ≤ d ∧ d ≤ cc + 10 * k ∧ k ≤ 7) ∧ s.key = ky)
    (fun (d, s, k) => mkSt [(0, .ptr 1000000 0), (3, .buf 3), (6, .ptr 6 0), (9, .d (strs [[115, 49], [115, 50], [115, 51]])), (10, .d (.int .i64 3)), (11, .d (.int .i64 i)), (19, .d (.int .i64 k))] [(1000000, strm n L d), (3, seqB 121 15 staF sta0 l), (6, staC s)])
    (fun (_, _, k) => 7 - k) (cc, ⟨ky, fun _ => 0⟩, 0) ⟨⟨by simp, by simp, by simp⟩, rfl⟩ ?_ ?_
   · exact Entails.mk' [(1000000, 1000000), (3, 3), (6, 6)] rfl rfl ⟨lr, lr, lr, lr, lr, lr, lr, trivial⟩ ⟨rr, rr, by rw [hky]; exact rr, trivial⟩
   rintro ⟨d, s, k⟩ ⟨⟨q1, q2, q3⟩, q4⟩
   have q1 : cc ≤ d := q1
   have q2 : d ≤ cc + 10 * k := q2
   have q3 : k ≤ 7 := q3
   have q4 : s.key = ky := q4
   by_cases hk7 : k = 7
   · subst hk7
     conv => whnf
     repeat' (first | (refine br_intro ?_ ?_ <;> intro hb <;> (try simp only [brs] at hb) <;> conv => whnf) | omega | (refine And.intro ?_ ?_; ((try dsimp only); first | omega | (refine szA rfl ?_; omega) | (refine szB rfl ?_; omega) | (unfold inI64; omega) | exact rfl | (simp only [lns] at *; omega) | decide | (unfold inI64; decide)); conv => whnf) | decide | assumption)
     exact ⟨(d, l ++ [s], i + 1), ⟨⟨by omega, by show _ ≤ a + 100 * ((i + 1 : Nat) : Int); omega, by omega⟩, allK_snoc p4 (by omega) (by show s.key.length ≤ 8; rw [q4, hky]; exact hkk)⟩, by show 3 - (i + 1) < 3 - i; omega,
      Entails.mk' [(1000000, 1000000), (3, 44)] rfl rfl ⟨lr, lr, lr, lr, lr, trivial⟩ ⟨rr, Res.le_snocF rfl, trivial⟩⟩
   · have hk : k = 0 ∨ k = 1 ∨ k = 2 ∨ k = 3 ∨ k = 4 ∨ k = 5 ∨ k = 6 := by omega
     rcases hk with rfl | rfl | rfl | rfl | rfl | rfl | rfl
     · conv => whnf
       repeat' (first | (refine CallX.of (s33 n L hL _ ?_ ?_ [0, 0, 480, 600, 1440] ?_ ?_) [(1000000, 1000000)] rfl ⟨lr, SV.le_lit rfl rfl, trivial⟩ ⟨rr, trivial⟩ rfl rfl ?_; rotate_right; rintro x rout ⟨⟨u1, hu1, rfl⟩, ⟨c, c1, c2, rfl⟩⟩; have hw1 : 0 ≤ u1 ∧ u1 ≤ 1440 := (by simp only [List.mem_cons, List.not_mem_nil, or_false] at hu1; omega); refine ⟨rfl, ?_⟩; conv => whnf) | (refine CallX.of (s64 n L hL _ ?_ ?_ u1 1440 ?_ ?_ ?_ ?_) [(1000000, 1000000)] rfl ⟨lr, lr, lr, trivial⟩ ⟨rr, trivial⟩ rfl rfl ?_; rotate_right; rintro x rout ⟨⟨u2, hv1, hv2, rfl⟩, ⟨c, c1, c2, rfl⟩⟩; refine ⟨rfl, ?_⟩; conv => whnf) | (refine CallX.of (s84 n L hL _ ?_ ?_ 4 ?_) [(1000000, 1000000)] rfl ⟨lr, lr, trivial⟩ ⟨rr, trivial⟩ rfl rfl ?_; rotate_right; rintro x rout ⟨⟨w, rfl⟩, ⟨c, c1, c2, rfl⟩⟩; refine ⟨rfl, ?_⟩; conv => whnf) | (refine br_intro ?_ ?_ <;> intro hb <;> (try simp only [brs] at hb) <;> conv => whnf) | omega | (refine And.intro ?_ ?_; ((try dsimp only); first | omega | (refine szA rfl ?_; omega) | (refine szB rfl ?_; omega) | (unfold inI64; omega) | exact rfl | (simp only [lns] at *; omega) | decide | (unfold inI64; decide)); conv => whnf) | decide | assumption)
       · exact ⟨(c, setH s 0 u1 u1, 1), ⟨⟨by omega, by show _ ≤ cc + 10 * ((1 : Nat) : Int); omega, by omega⟩, q4⟩, by show 7 - 1 < 7 - 0; omega, (by (refine Entails.mk' [(1000000, 1000000), (3, 3), (6, 6)] rfl rfl ?_ ?_ <;> repeat' (first | exact True.intro | exact lr | exact rr | exact SV.le_int (by omega) | exact SV.le_any _ | refine And.intro ?_ ?_)); done)⟩
       · exact ⟨(c, setH s 0 u1 u2, 1), ⟨⟨by omega, by show _ ≤ cc + 10 * ((1 : Nat) : Int); omega, by omega⟩, q4⟩, by show 7 - 1 < 7 - 0; omega, (by (refine Entails.mk' [(1000000, 1000000), (3, 3), (6, 6)] rfl rfl ?_ ?_ <;> repeat' (first | exact True.intro | exact lr | exact rr | exact SV.le_int (by omega) | exact SV.le_any _ | refine And.intro ?_ ?_)); done)⟩
     · conv => whnf
       repeat' (first | (refine CallX.of (s33 n L hL _ ?_ ?_ [0, 0, 480, 600, 1440] ?_ ?_) [(1000000, 1000000)] rfl ⟨lr, SV.le_lit rfl rfl, trivial⟩ ⟨rr, trivial⟩ rfl rfl ?_; rotate_right; rintro x rout ⟨⟨u1, hu1, rfl⟩, ⟨c, c1, c2, rfl⟩⟩; have hw1 : 0 ≤ u1 ∧ u1 ≤ 1440 := (by simp only [List.mem_cons, List.not_mem_nil, or_false] at hu1; omega); refine ⟨rfl, ?_⟩; conv => whnf) | (refine CallX.of (s64 n L hL _ ?_ ?_ u1 1440 ?_ ?_ ?_ ?_) [(1000000, 1000000)] rfl ⟨lr, lr, lr, trivial⟩ ⟨rr, trivial⟩ rfl rfl ?_; rotate_right; rintro x rout ⟨⟨u2, hv1, hv2, rfl⟩, ⟨c, c1, c2, rfl⟩⟩; refine ⟨rfl, ?_⟩; conv => whnf) | (refine CallX.of (s84 n L hL _ ?_ ?_ 4 ?_) [(1000000, 1000000)] rfl ⟨lr, lr, trivial⟩ ⟨rr, trivial⟩ rfl rfl ?_; rotate_right; rintro x rout ⟨⟨w, rfl⟩, ⟨c, c1, c2, rfl⟩⟩; refine ⟨rfl, ?_⟩; conv => whnf) | (refine br_intro ?_ ?_ <;> intro hb <;> (try simp only [brs] at hb) <;> conv => whnf) | omega | (refine And.intro ?_ ?_; ((try dsimp only); first | omega | (refine szA rfl ?_; omega) | (refine szB rfl ?_; omega) | (unfold inI64; omega) | exact rfl | (simp only [lns] at *; omega) | decide | (unfold inI64; decide)); conv => whnf) | decide | assumption)
       · exact ⟨(c, setH s 1 u1 u1, 2), ⟨⟨by omega, by show _ ≤ cc + 10 * ((2 : Nat) : Int); omega, by omega⟩, q4⟩, by show 7 - 2 < 7 - 1; omega, (by (refine Entails.mk' [(1000000, 1000000), (3, 3), (6, 6)] rfl rfl ?_ ?_ <;> repeat' (first | exact True.intro | exact lr | exact rr | exact SV.le_int (by omega) | exact SV.le_any _ | refine And.intro ?_ ?_)); done)⟩
       · exact ⟨(c, setH s 1 u1 u2, 2), ⟨⟨by omega, by show _ ≤ cc + 10 * ((2 : Nat) : Int); omega, by omega⟩, q4⟩, by show 7 - 2 < 7 - 1; omega, (by (refine Entails.mk' [(1000000, 1000000), (3, 3), (6, 6)] rfl rfl ?_ ?_ <;> repeat' (first | exact True.intro | exact lr | exact rr | exact SV.le_int (by omega) | exact SV.le_any _ | refine And.intro ?_ ?_)); done)⟩
     · conv => whnf
       repeat' (first | (refine CallX.of (s33 n L hL _ ?_ ?_ [0, 0, 480, 600, 1440] ?_ ?_) [(1000000, 1000000)] rfl ⟨lr, SV.le_lit rfl rfl, trivial⟩ ⟨rr, trivial⟩ rfl rfl ?_; rotate_right; rintro x rout ⟨⟨u1, hu1, rfl⟩, ⟨c, c1, c2, rfl⟩⟩; have hw1 : 0 ≤ u1 ∧ u1 ≤ 1440 := (by simp only [List.mem_cons, List.not_mem_nil, or_false] at hu1; omega); refine ⟨rfl, ?_⟩; conv => whnf) | (refine CallX.of (s64 n L hL _ ?_ ?_ u1 1440 ?_ ?_ ?_ ?_) [(1000000, 1000000)] rfl ⟨lr, lr, lr, trivial⟩ ⟨rr, trivial⟩ rfl rfl ?_; rotate_right; rintro x rout ⟨⟨u2, hv1, hv2, rfl⟩, ⟨c, c1, c2, rfl⟩⟩; refine ⟨rfl, ?_⟩; conv => whnf) | (refine CallX.of (s84 n L hL _ ?_ ?_ 4 ?_) [(1000000, 1000000)] rfl ⟨lr, lr, trivial⟩ ⟨rr, trivial⟩ rfl rfl ?_; rotate_right; rintro x rout ⟨⟨w, rfl⟩, ⟨c, c1, c2, rfl⟩⟩; refine ⟨rfl, ?_⟩; conv => whnf) | (refine br_intro ?_ ?_ <;> intro hb <;> (try simp only [brs] at hb) <;> conv => whnf) | omega | (refine And.intro ?_ ?_; ((try dsimp only); first | omega | (refine szA rfl ?_; omega) | (refine szB rfl ?_; omega) | (unfold inI64; omega) | exact rfl | (simp only [lns] at *; omega) | decide | (unfold inI64; decide)); conv => whnf) | decide | assumption)
       · exact ⟨(c, setH s 2 u1 u1, 3), ⟨⟨by omega, by show _ ≤ cc + 10 * ((3 : Nat) : Int); omega, by omega⟩, q4⟩, by show 7 - 3 < 7 - 2; omega, (by (refine Entails.mk' [(1000000, 1000000), (3, 3), (6, 6)] rfl rfl ?_ ?_ <;> repeat' (first | exact True.intro | exact lr | exact rr | exact SV.le_int (by omega) | exact SV.le_any _ | refine And.intro ?_ ?_)); done)⟩
       · exact ⟨(c, setH s 2 u1 u2, 3), ⟨⟨by omega, by show _ ≤ cc + 10 * ((3 : Nat) : Int); omega, by omega⟩, q4⟩, by show 7 - 3 < 7 - 2; omega, (by (refine Entails.mk' [(1000000, 1000000), (3, 3), (6, 6)] rfl rfl ?_ ?_ <;> repeat' (first | exact True.intro | exact lr | exact rr | exact SV.le_int (by omega) | exact SV.le_any _ | refine And.intro ?_ ?_)); done)⟩
     · conv => whnf
       repeat' (first | (refine CallX.of (s33 n L hL _ ?_ ?_ [0, 0, 480, 600, 1440] ?_ ?_) [(1000000, 1000000)] rfl ⟨lr, SV.le_lit rfl rfl, trivial⟩ ⟨rr, trivial⟩ rfl rfl ?_; rotate_right; rintro x rout ⟨⟨u1, hu1, rfl⟩, ⟨c, c1, c2, rfl⟩⟩; have hw1 : 0 ≤ u1 ∧ u1 ≤ 1440 := (by simp only [List.mem_cons, List.not_mem_nil, or_false] at hu1; omega); refine ⟨rfl, ?_⟩; conv => whnf) | (refine CallX.of (s64 n L hL _ ?_ ?_ u1 1440 ?_ ?_ ?_ ?_) [(1000000, 1000000)] rfl ⟨lr, lr, lr, trivial⟩ ⟨rr, trivial⟩ rfl rfl ?_; rotate_right; rintro x rout ⟨⟨u2, hv1, hv2, rfl⟩, ⟨c, c1, c2, rfl⟩⟩; refine ⟨rfl, ?_⟩; conv => whnf) | (refine CallX.of (s84 n L hL _ ?_ ?_ 4 ?_) [(1000000, 1000000)] rfl ⟨lr, lr, trivial⟩ ⟨rr, trivial⟩ rfl rfl ?_; rotate_right; rintro x rout ⟨⟨w, rfl⟩, ⟨c, c1, c2, rfl⟩⟩; refine ⟨rfl, ?_⟩; conv => whnf) | (refine br_intro ?_ ?_ <;> intro hb <;> (try simp only [brs] at hb) <;> conv => whnf) | omega | (refine And.intro ?_ ?_; ((try dsimp only); first | omega | (refine szA rfl ?_; omega) | (refine szB rfl ?_; omega) | (unfold inI64; omega) | exact rfl | (simp only [lns] at *; omega) | decide | (unfold inI64; decide)); conv => whnf) | decide | assumption)
       · exact ⟨(c, setH s 3 u1 u1, 4), ⟨⟨by omega, by show _ ≤ cc + 10 * ((4 : Nat) : Int); omega, by omega⟩, q4⟩, by show 7 - 4 < 7 - 3; omega, (by (refine Entails.mk' [(1000000, 1000000), (3, 3), (6, 6)] rfl rfl ?_ ?_ <;> repeat' (first | exact True.intro | exact lr | exact rr | exact SV.le_int (by omega) | exact SV.le_any _ | refine And.intro ?_ ?_)); done)⟩
       · exact ⟨(c, setH s 3 u1 u2, 4), ⟨⟨by omega, by show _ ≤ cc + 10 * ((4 : Nat) : Int); omega, by omega⟩, q4⟩, by show 7 - 4 < 7 - 3; omega, (by (refine Entails.mk' [(1000000, 1000000), (3, 3), (6, 6)] rfl rfl ?_ ?_ <;> repeat' (first | exact True.intro | exact lr | exact rr | exact SV.le_int (by omega) | exact SV.le_any _ | refine And.intro ?_ ?_)); done)⟩
     · conv => whnf
       repeat' (first | (refine CallX.of (s33 n L hL _ ?_ ?_ [0, 0, 480, 600, 1440] ?_ ?_) [(1000000, 1000000)] rfl ⟨lr, SV.le_lit rfl rfl, trivial⟩ ⟨rr, trivial⟩ rfl rfl ?_; rotate_right; rintro x rout ⟨⟨u1, hu1, rfl⟩, ⟨c, c1, c2, rfl⟩⟩; have hw1 : 0 ≤ u1 ∧ u1 ≤ 1440 := (by simp only [List.mem_cons, List.not_mem_nil, or_false] at hu1; omega); refine ⟨rfl, ?_⟩; conv => whnf) | (refine CallX.of (s64 n L hL _ ?_ ?_ u1 1440 ?_ ?_ ?_ ?_) [(1000000, 1000000)] rfl ⟨lr, lr, lr, trivial⟩ ⟨rr, trivial⟩ rfl rfl ?_; rotate_right; rintro x rout ⟨⟨u2, hv1, hv2, rfl⟩, ⟨c, c1, c2, rfl⟩⟩; refine ⟨rfl, ?_⟩; conv => whnf) | (refine CallX.of (s84 n L hL _ ?_ ?_ 4 ?_) [(1000000, 1000000)] rfl ⟨lr, lr, trivial⟩ ⟨rr, trivial⟩ rfl rfl ?_; rotate_right; rintro x rout ⟨⟨w, rfl⟩, ⟨c, c1, c2, rfl⟩⟩; refine ⟨rfl, ?_⟩; conv => whnf) | (refine br_intro ?_ ?_ <;> intro hb <;> (try simp only [brs] at hb) <;> conv => whnf) | omega | (refine And.intro ?_ ?_; ((try dsimp only); first | omega | (refine szA rfl ?_; omega) | (refine szB rfl ?_; omega) | (unfold inI64; omega) | exact rfl | (simp only [lns] at *; omega) | decide | (unfold inI64; decide)); conv => whnf) | decide | assumption)
       · exact ⟨(c, setH s 4 u1 u1, 5), ⟨⟨by omega, by show _ ≤ cc + 10 * ((5 : Nat) : Int); omega, by omega⟩, q4⟩, by show 7 - 5 < 7 - 4; omega, (by (refine Entails.mk' [(1000000, 1000000), (3, 3), (6, 6)] rfl rfl ?_ ?_ <;> repeat' (first | exact True.intro | exact lr | exact rr | exact SV.le_int (by omega) | exact SV.le_any _ | refine And.intro ?_ ?_)); done)⟩
       · exact ⟨(c, setH s 4 u1 u2, 5), ⟨⟨by omega, by show _ ≤ cc + 10 * ((5 : Nat) : Int); omega, by omega⟩, q4⟩, by show 7 - 5 < 7 - 4; omega, (by (refine Entails.mk' [(1000000, 1000000), (3, 3), (6, 6)] rfl rfl ?_ ?_ <;> repeat' (first | exact True.intro | exact lr | exact rr | exact SV.le_int (by omega) | exact SV.le_any _ | refine And.intro ?_ ?_)); done)⟩
     · conv => whnf
       repeat' (first | (refine CallX.of (s33 n L hL _ ?_ ?_ [0, 0, 480, 600, 1440] ?_ ?_) [(1000000, 1000000)] rfl ⟨lr, SV.le_lit rfl rfl, trivial⟩ ⟨rr, trivial⟩ rfl rfl ?_; rotate_right; rintro x rout ⟨⟨u1, hu1, rfl⟩, ⟨c, c1, c2, rfl⟩⟩; have hw1 : 0 ≤ u1 ∧ u1 ≤ 1440 := (by simp only [List.mem_cons, List.not_mem_nil, or_false] at hu1; omega); refine ⟨rfl, ?_⟩; conv => whnf) | (refine CallX.of (s64 n L hL _ ?_ ?_ u1 1440 ?_ ?_ ?_ ?_) [(1000000, 1000000)] rfl ⟨lr, lr, lr, trivial⟩ ⟨rr, trivial⟩ rfl rfl ?_; rotate_right; rintro x rout ⟨⟨u2, hv1, hv2, rfl⟩, ⟨c, c1, c2, rfl⟩⟩; refine ⟨rfl, ?_⟩; conv => whnf) | (refine CallX.of (s84 n L hL _ ?_ ?_ 4 ?_) [(1000000, 1000000)] rfl ⟨lr, lr, trivial⟩ ⟨rr, trivial⟩ rfl rfl ?_; rotate_right; rintro x rout ⟨⟨w, rfl⟩, ⟨c, c1, c2, rfl⟩⟩; refine ⟨rfl, ?_⟩; conv => whnf) | (refine br_intro ?_ ?_ <;> intro hb <;> (try simp only [brs] at hb) <;> conv => whnf) | omega | (refine And.intro ?_ ?_; ((try dsimp only); first | omega | (refine szA rfl ?_; omega) | (refine szB rfl ?_; omega) | (unfold inI64; omega) | exact rfl | (simp only [lns] at *; omega) | decide | (unfold inI64; decide)); conv => whnf) | decide | assumption)
       · exact ⟨(c, setH s 5 u1 u1, 6), ⟨⟨by omega, by show _ ≤ cc + 10 * ((6 : Nat) : Int); omega, by omega⟩, q4⟩, by show 7 - 6 < 7 - 5; omega, (by (refine Entails.mk' [(1000000, 1000000), (3, 3), (6, 6)] rfl rfl ?_ ?_ <;> repeat' (first | exact True.intro | exact lr | exact rr | exact SV.le_int (by omega) | exact SV.le_any _ | refine And.intro ?_ ?_)); done)⟩
       · exact ⟨(c, setH s 5 u1 u2, 6), ⟨⟨by omega, by show _ ≤ cc + 10 * ((6 : Nat) : Int); omega, by omega⟩, q4⟩, by show 7 - 6 < 7 - 5; omega, (by (refine Entails.mk' [(1000000, 1000000), (3, 3), (6, 6)] rfl rfl ?_ ?_ <;> repeat' (first | exact True.intro | exact lr | exact rr | exact SV.le_int (by omega) | exact SV.le_any _ | refine And.intro ?_ ?_)); done)⟩
     · conv => whnf
       repeat' (first | (refine CallX.of (s33 n L hL _ ?_ ?_ [0, 0, 480, 600, 1440] ?_ ?_) [(1000000, 1000000)] rfl ⟨lr, SV.le_lit rfl rfl, trivial⟩ ⟨rr, trivial⟩ rfl rfl ?_; rotate_right; rintro x rout ⟨⟨u1, hu1, rfl⟩, ⟨c, c1, c2, rfl⟩⟩; have hw1 : 0 ≤ u1 ∧ u1 ≤ 1440 := (by simp only [List.mem_cons, List.not_mem_nil, or_false] at hu1; omega); refine ⟨rfl, ?_⟩; conv => whnf) | (refine CallX.of (s64 n L hL _ ?_ ?_ u1 1440 ?_ ?_ ?_ ?_) [(1000000, 1000000)] rfl ⟨lr, lr, lr, trivial⟩ ⟨rr, trivial⟩ rfl rfl ?_; rotate_right; rintro x rout ⟨⟨u2, hv1, hv2, rfl⟩, ⟨c, c1, c2, rfl⟩⟩; refine ⟨rfl, ?_⟩; conv => whnf) | (refine CallX.of (s84 n L hL _ ?_ ?_ 4 ?_) [(1000000, 1000000)] rfl ⟨lr, lr, trivial⟩ ⟨rr, trivial⟩ rfl rfl ?_; rotate_right; rintro x rout ⟨⟨w, rfl⟩, ⟨c, c1, c2, rfl⟩⟩; refine ⟨rfl, ?_⟩; conv => whnf) | (refine br_intro ?_ ?_ <;> intro hb <;> (try simp only [brs] at hb) <;> conv => whnf) | omega | (refine And.intro ?_ ?_; ((try dsimp only); first | omega | (refine szA rfl ?_; omega) | (refine szB rfl ?_; omega) | (unfold inI64; omega) | exact rfl | (simp only [lns] at *; omega) | decide | (unfold inI64; decide)); conv => whnf) | decide | assumption)
       · exact ⟨(c, setH s 6 u1 u1, 7), ⟨⟨by omega, by show _ ≤ cc + 10 * ((7 : Nat) : Int); omega, by omega⟩, q4⟩, by show 7 - 7 < 7 - 6; omega, (by (refine Entails.mk' [(1000000, 1000000), (3, 3), (6, 6)] rfl rfl ?_ ?_ <;> repeat' (first | exact True.intro | exact lr | exact rr | exact SV.le_int (by omega) | exact SV.le_any _ | refine And.intro ?_ ?_)); done)⟩
       · exact ⟨(c, setH s 6 u1 u2, 7), ⟨⟨by omega, by show _ ≤ cc + 10 * ((7 : Nat) : Int); omega, by omega⟩, q4⟩, by show 7 - 7 < 7 - 6; omega, (by (refine Entails.mk' [(1000000, 1000000), (3, 3), (6, 6)] rfl rfl ?_ ?_ <;> repeat' (first | exact True.intro | exact lr | exact rr | exact SV.le_int (by omega) | exact SV.le_any _ | refine And.intro ?_ ?_)); done)⟩
 · refine .ret _ ?_
   conv => whnf
   exact ⟨[(3, seqB 121 15 staF sta0 l), (1000000, strm n L _)], ⟨l, b, allK_le p4 (by omega), ⟨by omega, by omega⟩, rfl, rfl⟩, rr, rr, trivial⟩
def vehS (l : List Veh) : Prop := ∀ i j, i < j → j < l.length → Op.bytesLess (l.getD i veh0).key (l.getD j veh0).key = true
theorem z287 (v : Veh) (key : List UInt8) : FSpec Tryz.prog 287 [.agg ((vehF v).map .d), .d (.str key)] [] (fun y r => y = .d (.int .i64 (cmpS v.key key)) ∧ r = []) := by
 refine spec_of hT (C := []) Tryz.func287 rfl Tryz.call287 rfl rfl rfl ?_
 conv => whnf
 repeat' (first | (refine CallX.exact (s184 _ _) rfl rfl ?_; rotate_right; conv => whnf) | (refine br_intro ?_ ?_ <;> intro hb <;> (try simp only [brs] at hb) <;> conv => whnf) | omega | (refine And.intro ?_ ?_; ((try dsimp only); first | omega | (refine szA rfl ?_; omega) | (refine szB rfl ?_; omega) | (unfold inI64; omega) | exact rfl | (simp only [lns] at *; omega) | decide | (unfold inI64; decide)); conv => whnf) | decide | assumption)
 refine .ret _ ?_
 conv => whnf
 refine ⟨[], ⟨?_, rfl⟩, trivial⟩
 conv => lhs; whnf
theorem cmpS_neg (a b : List UInt8) : cmpS a b < 0 ↔ Op.bytesLess a b = true := by unfold cmpS; grind
theorem cmpS_zero (a b : List UInt8) : cmpS a b = 0 ↔ a = b := by
 unfold cmpS; grind [less_tri, less_irr]
theorem half2 (lo hi : Nat) (h : hi ≤ 2^20) (hl : lo ≤ hi) : IntKind.wrap .u64 ((lo : Int) + hi) / 2 = (((lo + hi) / 2 : Nat) : Int) := by
 unfold IntKind.wrap; simp [IntKind.signed, IntKind.bits]; omega
theorem vehS_lt {l : List Veh} (hs : vehS l) {key : List UInt8} {i j : Nat} (hij : i ≤ j) (hj : j < l.length) (h : Op.bytesLess (l.getD j veh0).key key = true) : Op.bytesLess (l.getD i veh0).key key = true := by
 rcases Nat.lt_or_ge i j with q | q
 · exact less_trans (hs i j q hj) h
 · obtain rfl : i = j := by omega
   exact h
theorem veIx_hit {l : List Veh} (hs : vehS l) {i : Nat} (hi : i < l.length) : veIx l (l.getD i veh0).key = i := by
 refine ixF_hit hi (fun j hj => ?_) (by simp)
 rw [beq_eq_false_iff_ne]
 intro e
 have := hs j i hj hi
 rw [e, less_irr] at this; cases this
theorem veIx_no {l : List Veh} {key : List UInt8} (h : ∀ i, i < l.length → (l.getD i veh0).key ≠ key) : veIx l key = -1 :=
 ixF_none fun j hj => beq_eq_false_iff_ne.2 (h j hj)
theorem z286 (l : List Veh) (hl : l.length ≤ 2^20) (hs : vehS l) (key : List UInt8) : FSpec Tryz.prog 286 [.d (vehs l), .d (.str key), .fn 287 []] []
 (fun y r => (∃ j : Nat, ∃ b : Bool, y = .tup [.d (.int .i64 j), .d (.bool b)] ∧ veIx l key = if b = true then (j : Int) else -1) ∧ r = []) := by
 refine spec_of hT (C := []) Tryz.func286 rfl Tryz.call286 rfl rfl rfl ?_
 conv => whnf
 refine LoopX.rule hT (C := []) (ι := Nat × Nat) (fun (lo, hi) => (lo ≤ hi ∧ hi ≤ l.length) ∧ (∀ j, j < lo → Op.bytesLess (l.getD j veh0).key key = true) ∧ ∀ j, hi ≤ j → j < l.length → Op.bytesLess (l.getD j veh0).key key = false)
  (fun (lo, hi) => mkSt [(0, .d (vehs l)), (1, .d (.str key)), (2, .fn 287 []), (8, .d (.int .i64 l.length)), (9, .d (.int .i64 lo)), (10, .d (.int .i64 hi))] []) (fun (lo, hi) => hi - lo) (0, l.length)
  ⟨⟨by simp, by simp⟩, fun j hj => by omega, fun j h1 h2 => by omega⟩ (by (refine Entails.mk' [] rfl rfl ?_ ?_ <;> repeat' (first | exact True.intro | exact lr | exact rr | exact SV.le_int (by omega) | exact SV.le_any _ | refine And.intro ?_ ?_)); done) ?_
 rintro ⟨lo, hi⟩ ⟨⟨p1, p2⟩, p3, p4⟩
 have p1 : lo ≤ hi := p1
 have p2 : hi ≤ l.length := p2
 have p3 : ∀ j, j < lo → Op.bytesLess (l.getD j veh0).key key = true := p3
 have p4 : ∀ j, hi ≤ j → j < l.length → Op.bytesLess (l.getD j veh0).key key = false := p4
 have hh := half2 lo hi (by omega) p1
 obtain ⟨M, hM⟩ : ∃ M, M = (lo + hi) / 2 := ⟨_, rfl⟩
 rw [← hM] at hh
 have e1 : ((M : Nat) : Int).toNat = M := Int.toNat_natCast M
 have e2 : ((lo : Nat) : Int).toNat = lo := Int.toNat_natCast lo
 conv => whnf
 repeat' (first | (refine ⟨rfl, ?_⟩; conv => whnf) | (rw [hh]; conv => whnf) | (refine CallX.exact (z287 (l.getD (M : Int).toNat veh0) key) rfl rfl ?_; rotate_right; conv => whnf) | (refine CallX.exact (z287 (l.getD (lo : Int).toNat veh0) key) rfl rfl ?_; rotate_right; conv => whnf) | (refine br_intro ?_ ?_ <;> intro hb <;> (try simp only [brs] at hb) <;> conv => whnf) | omega | (refine And.intro ?_ ?_; ((try dsimp only); first | omega | (refine szA rfl ?_; omega) | (refine szB rfl ?_; omega) | (unfold inI64; omega) | exact rfl | (simp only [lns] at *; omega) | decide | (unfold inI64; decide)); conv => whnf) | decide | assumption)
 · have hb1 := (cmpS_neg _ _).1 hb
   exact ⟨(M + 1, hi), ⟨⟨by omega, p2⟩, fun j hj => vehS_lt hs (show j ≤ M by omega) (by omega) hb1, p4⟩, by show hi - (M + 1) < hi - lo; omega, (by (refine Entails.mk' [] rfl rfl ?_ ?_ <;> repeat' (first | exact True.intro | exact lr | exact rr | exact SV.le_int (by omega) | exact SV.le_any _ | refine And.intro ?_ ?_)); done)⟩
 · have hb1 : Op.bytesLess (l.getD M veh0).key key = false := by
    rw [← Bool.not_eq_true, ← cmpS_neg]; omega
   refine ⟨(lo, M), ⟨⟨by omega, by omega⟩, p3, fun j h1 h2 => ?_⟩, by show M - lo < hi - lo; omega, (by (refine Entails.mk' [] rfl rfl ?_ ?_ <;> repeat' (first | exact True.intro | exact lr | exact rr | exact SV.le_int (by omega) | exact SV.le_any _ | refine And.intro ?_ ?_)); done)⟩
   rw [← Bool.not_eq_true]
   intro q
   rw [vehS_lt hs h1 h2 q] at hb1; cases hb1
 · refine .ret _ ?_
   conv => whnf
   refine ⟨[], ⟨⟨lo, decide (cmpS (l.getD lo veh0).key key = 0), rfl, ?_⟩, rfl⟩, trivial⟩
   by_cases q : (l.getD lo veh0).key = key
   · rw [if_pos (by rw [decide_eq_true_eq, cmpS_zero]; exact q), ← q]
     exact veIx_hit hs (by omega)
   · rw [if_neg (by rw [decide_eq_true_eq, cmpS_zero]; exact q)]
     have h0 := p4 lo (by omega) (by omega)
     have h1 := less_tri _ _ h0 q
     refine veIx_no fun i hi2 e => ?_
     rcases Nat.lt_trichotomy i lo with r | r | r
     · have := p3 i r; rw [e, less_irr] at this; cases this
     · subst r; exact q e
     · have := less_trans h1 (hs lo i r hi2); rw [e, less_irr] at this; cases this
 · refine .ret _ ?_
   conv => whnf
   refine ⟨[], ⟨⟨lo, false, rfl, ?_⟩, rfl⟩, trivial⟩
   rw [if_neg (by simp)]
   refine veIx_no fun i hi2 e => ?_
   have := p3 i (by omega)
   rw [e, less_irr] at this; cases this
def oTFlE175_8 : List (Nat × List Nat) := [(0, []), (1, []), (2, []), (3, []), (4, []), (5, [3, 4]), (6, [3, 4, 5]), (7, [3, 4, 5]), (8, [3, 4]), (9, [3, 4]), (10, [3, 4]), (11, []), (12, []), (13, [])]
def oTFlE175_22 : List (Nat × List Nat) := [(0, []), (1, [0]), (2, [0]), (4, [0, 1, 2]), (5, [0, 1, 2]), (3, [4, 5]), (6, [])]
set_option maxHeartbeats 2000000 in
theorem z175 (l : List Cls) (hk : clsOk l) : FSpec Tryz.prog 175 [.d (clss l)] [] (fun x r => x = .d (.int .i64 (clssE l)) ∧ r = []) := by
 have hlen := hk.1
 refine spec_of hT (C := []) Tryz.func175 rfl Tryz.call175 rfl rfl rfl ?_
 conv => whnf
 refine br_intro (fun h0 => ?_) (fun h0 => ?_)
 · simp at h0
   conv => whnf
   refine .ret _ ?_
   conv => whnf
   refine ⟨[], ⟨?_, rfl⟩, trivial⟩
   conv => lhs; whnf
   unfold clssE; rw [if_pos (by omega)]
 simp at h0
 conv => whnf
 refine LoopX.rule hT (C := []) (ι := Nat) (fun i => i ≤ l.length ∧ ∀ j, j < i → clsE1 l j = 0) (fun i => mkSt [(0, .d (clss l)), (12, .d (clss l)), (13, .d (.int .i64 l.length)), (14, .d (.int .i64 i))] []) (fun i => l.length - i) 0 ⟨by omega, by omega⟩ (by (refine Entails.mk' [] rfl rfl ?_ ?_ <;> repeat' (first | exact True.intro | exact lr | exact rr | exact SV.le_int (by omega) | exact SV.le_any _ | refine And.intro ?_ ?_)); done) ?_
 rintro i ⟨p1, p2⟩
 have hx : (i : Int) < l.length → (l.getD (i : Int).toNat cls0).key.length ≤ 2^40 ∧ (l.getD (i : Int).toNat cls0).up.length ≤ 2^40 := fun hi => hk.2 _ (getD_mem (by omega))
 have e1 : (i : Int).toNat = i := Int.toNat_natCast i
 have hbad : ∀ e : Int, i < l.length → e ≠ 0 → clsE1 l i = e → clssE l = e := fun e h h1 h2 => by
  unfold clssE; rw [if_neg (by omega), firstAt_eq h p2 h1 h2, firstE, if_neg h1]
 rcases Nat.lt_or_ge i l.length with hi | hi
 · conv => whnf
   repeat' (first | (refine CallX.exact (s108 _ (hx (by omega)).1) rfl rfl ?_; rotate_right; conv => whnf) | (refine CallX.exact (s108 _ (hx (by omega)).2) rfl rfl ?_; rotate_right; conv => whnf) | (refine br_intro ?_ ?_ <;> intro hb <;> (try simp only [brs] at hb) <;> conv => whnf) | (refine RegX.rule (id := 8) hT rfl [] oTFlE175_8 (by decide +kernel) ?_; conv => whnf) | (refine RegX.rule (id := 22) hT rfl [] oTFlE175_22 (by decide +kernel) ?_; conv => whnf) | omega | (refine And.intro ?_ ?_; ((try dsimp only); first | omega | (refine szA rfl ?_; omega) | (refine szB rfl ?_; omega) | (unfold inI64; omega) | exact rfl | (simp only [lns] at *; omega) | decide | (unfold inI64; decide)); conv => whnf) | decide | assumption)
   all_goals try (exfalso; omega)
   all_goals first
    | (refine ⟨i + 1, ⟨by omega, first_step p2 (by clear p2 hbad hk hx; simp only [e1, toNat_pred] at *; unfold clsE1 strLe; grind)⟩, by omega, (by (refine Entails.mk' [] rfl rfl ?_ ?_ <;> repeat' (first | exact True.intro | exact lr | exact rr | exact SV.le_int (by omega) | exact SV.le_any _ | refine And.intro ?_ ?_)); done)⟩)
    | (refine .ret _ ?_
       conv => whnf
       refine ⟨[], ⟨?_, rfl⟩, trivial⟩
       conv => lhs; whnf
       congr 2
       exact (hbad _ (by omega) (by decide) (by clear p2 hbad hk hx; simp only [e1, toNat_pred] at *; unfold clsE1 strLe; grind)).symm)
 have hil : i = l.length := by omega
 subst hil
 have P1 := firstAt_zero p2
 clear hbad hx p2
 conv => whnf
 repeat' (first | (refine br_intro ?_ ?_ <;> intro hb <;> (try simp only [brs] at hb) <;> conv => whnf) | (refine RegX.rule (id := 8) hT rfl [] oTFlE175_8 (by decide +kernel) ?_; conv => whnf) | (refine RegX.rule (id := 22) hT rfl [] oTFlE175_22 (by decide +kernel) ?_; conv => whnf) | omega | (refine And.intro ?_ ?_; ((try dsimp only); first | omega | (refine szA rfl ?_; omega) | (refine szB rfl ?_; omega) | (unfold inI64; omega) | exact rfl | (simp only [lns] at *; omega) | decide | (unfold inI64; decide)); conv => whnf) | decide | assumption)
 all_goals try (exfalso; omega)
 refine LoopX.rule hT (C := []) (ι := Nat) (fun i => i ≤ l.length ∧ ∀ j, j < i → clsE2 l j = 0) (fun i => mkSt [(0, .d (clss l)), (49, .d (clss l)), (50, .d (.int .i64 l.length)), (51, .d (.int .i64 i))] []) (fun i => l.length - i) 0 ⟨by omega, by omega⟩ (by (refine Entails.mk' [] rfl rfl ?_ ?_ <;> repeat' (first | exact True.intro | exact lr | exact rr | exact SV.le_int (by omega) | exact SV.le_any _ | refine And.intro ?_ ?_)); done) ?_
 rintro i ⟨p1, p2⟩
 have e1 : (i : Int).toNat = i := Int.toNat_natCast i
 have hbad : ∀ e : Int, i < l.length → e ≠ 0 → clsE2 l i = e → clssE l = e := fun e h h1 h2 => by
  unfold clssE; rw [if_neg (by omega), firstE, if_pos P1, firstE, firstAt_eq h p2 h1 h2, if_neg h1]
 rcases Nat.lt_or_ge i l.length with hi | hi
 · conv => whnf
   repeat' (first | (refine CallX.exact (z176 l (by omega) _) rfl rfl ?_; rotate_right; conv => whnf) | (refine br_intro ?_ ?_ <;> intro hb <;> (try simp only [brs] at hb) <;> conv => whnf) | (refine RegX.rule (id := 8) hT rfl [] oTFlE175_8 (by decide +kernel) ?_; conv => whnf) | (refine RegX.rule (id := 22) hT rfl [] oTFlE175_22 (by decide +kernel) ?_; conv => whnf) | omega | (refine And.intro ?_ ?_; ((try dsimp only); first | omega | (refine szA rfl ?_; omega) | (refine szB rfl ?_; omega) | (unfold inI64; omega) | exact rfl | (simp only [lns] at *; omega) | decide | (unfold inI64; decide)); conv => whnf) | decide | assumption)
   all_goals try (exfalso; omega)
   all_goals first
    | (refine ⟨i + 1, ⟨by omega, first_step p2 (by clear p2 hbad hk; simp only [e1] at *; unfold clsE2; grind)⟩, by omega, (by (refine Entails.mk' [] rfl rfl ?_ ?_ <;> repeat' (first | exact True.intro | exact lr | exact rr | exact SV.le_int (by omega) | exact SV.le_any _ | refine And.intro ?_ ?_)); done)⟩)
    | (refine .ret _ ?_
       conv => whnf
       refine ⟨[], ⟨?_, rfl⟩, trivial⟩
       conv => lhs; whnf
       congr 2
       exact (hbad _ (by omega) (by decide) (by clear p2 hbad hk; simp only [e1] at *; unfold clsE2; grind)).symm)
 have hil : i = l.length := by omega
 subst hil
 have P2 := firstAt_zero p2
 have hu : upsOk l := fun c hc hn => by
  obtain ⟨j, hj, rfl⟩ := mem_getD (d := cls0) hc
  have := p2 j hj
  unfold clsE2 at this
  rcases Int.lt_or_le (clIx l (l.getD j cls0).up) 0 with q | q
  · rw [if_pos ⟨hn, q⟩] at this; cases this
  · exact q
 clear hbad p2
 conv => whnf
 repeat' (first | (refine br_intro ?_ ?_ <;> intro hb <;> (try simp only [brs] at hb) <;> conv => whnf) | (refine RegX.rule (id := 8) hT rfl [] oTFlE175_8 (by decide +kernel) ?_; conv => whnf) | (refine RegX.rule (id := 22) hT rfl [] oTFlE175_22 (by decide +kernel) ?_; conv => whnf) | omega | (refine And.intro ?_ ?_; ((try dsimp only); first | omega | (refine szA rfl ?_; omega) | (refine szB rfl ?_; omega) | (unfold inI64; omega) | exact rfl | (simp only [lns] at *; omega) | decide | (unfold inI64; decide)); conv => whnf) | decide | assumption)
 all_goals try (exfalso; omega)
 refine LoopX.rule hT (C := []) (ι := Nat) (fun i => i ≤ l.length ∧ ∀ j, j < i → clsE3 l j = 0) (fun i => mkSt [(0, .d (clss l)), (66, .d (clss l)), (67, .d (.int .i64 l.length)), (68, .d (.int .i64 i))] []) (fun i => l.length - i) 0 ⟨by omega, by omega⟩ (by (refine Entails.mk' [] rfl rfl ?_ ?_ <;> repeat' (first | exact True.intro | exact lr | exact rr | exact SV.le_int (by omega) | exact SV.le_any _ | refine And.intro ?_ ?_)); done) ?_
 rintro i ⟨p1, p2⟩
 have e1 : (i : Int).toNat = i := Int.toNat_natCast i
 have hbad : ∀ e : Int, i < l.length → e ≠ 0 → clsE3 l i = e → clssE l = e := fun e h h1 h2 => by
  unfold clssE; rw [if_neg (by omega), firstE, if_pos P1, firstE, if_pos P2, firstE, firstAt_eq h p2 h1 h2, if_neg h1]
 rcases Nat.lt_or_ge i l.length with hi | hi
 · have hin := clIx_pos (l := l) (c := l.getD (i : Int).toNat cls0) (getD_mem (by omega))
   have hal := abv_len l l.length (l.getD (i : Int).toNat cls0).key
   have hlo := loop_eq hu hin
   conv => whnf
   repeat' (first | (refine CallX.exact (z241 l hlen hu _ hin) rfl rfl ?_; rotate_right; conv => whnf) | (refine CallX.exact (z153 _ (by omega) _) rfl rfl ?_; rotate_right; conv => whnf) | (refine br_intro ?_ ?_ <;> intro hb <;> (try simp only [brs] at hb) <;> conv => whnf) | (refine RegX.rule (id := 8) hT rfl [] oTFlE175_8 (by decide +kernel) ?_; conv => whnf) | (refine RegX.rule (id := 22) hT rfl [] oTFlE175_22 (by decide +kernel) ?_; conv => whnf) | omega | (refine And.intro ?_ ?_; ((try dsimp only); first | omega | (refine szA rfl ?_; omega) | (refine szB rfl ?_; omega) | (unfold inI64; omega) | exact rfl | (simp only [lns] at *; omega) | decide | (unfold inI64; decide)); conv => whnf) | decide | assumption)
   all_goals try (exfalso; omega)
   all_goals first
    | (refine ⟨i + 1, ⟨by omega, first_step p2 (by clear p2 hbad hk; simp only [e1] at *; unfold clsE3; grind)⟩, by omega, (by (refine Entails.mk' [] rfl rfl ?_ ?_ <;> repeat' (first | exact True.intro | exact lr | exact rr | exact SV.le_int (by omega) | exact SV.le_any _ | refine And.intro ?_ ?_)); done)⟩)
    | (refine .ret _ ?_
       conv => whnf
       refine ⟨[], ⟨?_, rfl⟩, trivial⟩
       conv => lhs; whnf
       congr 2
       exact (hbad _ (by omega) (by decide) (by clear p2 hbad hk; simp only [e1] at *; unfold clsE3; grind)).symm)
 have hil : i = l.length := by omega
 subst hil
 have P3 := firstAt_zero p2
 conv => whnf
 repeat' (first | (refine br_intro ?_ ?_ <;> intro hb <;> (try simp only [brs] at hb) <;> conv => whnf) | (refine RegX.rule (id := 8) hT rfl [] oTFlE175_8 (by decide +kernel) ?_; conv => whnf) | (refine RegX.rule (id := 22) hT rfl [] oTFlE175_22 (by decide +kernel) ?_; conv => whnf) | omega | (refine And.intro ?_ ?_; ((try dsimp only); first | omega | (refine szA rfl ?_; omega) | (refine szB rfl ?_; omega) | (unfold inI64; omega) | exact rfl | (simp only [lns] at *; omega) | decide | (unfold inI64; decide)); conv => whnf) | decide | assumption)
 all_goals try (exfalso; omega)
 refine .ret _ ?_
 conv => whnf
 refine ⟨[], ⟨?_, rfl⟩, trivial⟩
 conv => lhs; whnf
 unfold clssE
 rw [if_neg (by omega), firstE, if_pos P1, firstE, if_pos P2, firstE, if_pos P3]
 rfl
def oTFlF83_24 : List (Nat × List Nat) := [(0, []), (1, [0]), (2, [0]), (4, [0, 1, 2]), (5, [0, 1, 2]), (3, [4, 5]), (6, [])]
set_option maxHeartbeats 2000000 in
theorem z83 (l : List Cls) (hk : clsOk l) : FSpec Tryz.prog 83 [.d (clss l)] [] (fun x r => x = .d (.int .i64 (clssE l)) ∧ r = []) := by
 have hlen := hk.1
 refine spec_of hT (C := []) Tryz.func83 rfl Tryz.call83 rfl rfl rfl ?_
 conv => whnf
 refine br_intro (fun h0 => ?_) (fun h0 => ?_)
 · simp at h0
   conv => whnf
   refine .ret _ ?_
   conv => whnf
   refine ⟨[], ⟨?_, rfl⟩, trivial⟩
   conv => lhs; whnf
   unfold clssE; rw [if_pos (by omega)]
 simp at h0
 conv => whnf
 refine LoopX.rule hT (C := []) (ι := Nat) (fun i => i ≤ l.length ∧ ∀ j, j < i → clsE1 l j = 0) (fun i => mkSt [(0, .d (clss l)), (3, .d (.str (if i = 0 then [] else (l.getD (i - 1) cls0).key))), (13, .d (clss l)), (14, .d (.int .i64 l.length)), (15, .d (.int .i64 i))] []) (fun i => l.length - i) 0 ⟨by omega, by omega⟩ (by (refine Entails.mk' [] rfl rfl ?_ ?_ <;> repeat' (first | exact True.intro | exact lr | exact rr | exact SV.le_int (by omega) | exact SV.le_any _ | refine And.intro ?_ ?_)); done) ?_
 rintro i ⟨p1, p2⟩
 have hx : (i : Int) < l.length → (l.getD (i : Int).toNat cls0).key.length ≤ 2^40 ∧ (l.getD (i : Int).toNat cls0).up.length ≤ 2^40 := fun hi => hk.2 _ (getD_mem (by omega))
 have e1 : (i : Int).toNat = i := Int.toNat_natCast i
 have hbad : ∀ e : Int, i < l.length → e ≠ 0 → clsE1 l i = e → clssE l = e := fun e h h1 h2 => by
  unfold clssE; rw [if_neg (by omega), firstAt_eq h p2 h1 h2, firstE, if_neg h1]
 rcases Nat.lt_or_ge i l.length with hi | hi
 · conv => whnf
   repeat' (first | (refine CallX.exact (s21 _ (hx (by omega)).1) rfl rfl ?_; rotate_right; conv => whnf) | (refine CallX.exact (s21 _ (hx (by omega)).2) rfl rfl ?_; rotate_right; conv => whnf) | (refine br_intro ?_ ?_ <;> intro hb <;> (try simp only [brs] at hb) <;> conv => whnf) | (refine RegX.rule (id := 24) hT rfl [] oTFlF83_24 (by decide +kernel) ?_; conv => whnf) | omega | (refine And.intro ?_ ?_; ((try dsimp only); first | omega | (refine szA rfl ?_; omega) | (refine szB rfl ?_; omega) | (unfold inI64; omega) | exact rfl | (simp only [lns] at *; omega) | decide | (unfold inI64; decide)); conv => whnf) | decide | assumption)
   all_goals try (exfalso; omega)
   all_goals first
    | (refine ⟨i + 1, ⟨by omega, first_step p2 (by clear p2 hbad hk hx; simp only [e1, toNat_pred] at *; unfold clsE1 strLe; grind)⟩, by omega, Entails.mk' [] rfl rfl ⟨lr, (by rw [show (if i + 1 = 0 then ([] : List UInt8) else (l.getD (i + 1 - 1) cls0).key) = (l.getD (i : Int).toNat cls0).key from by rw [if_neg (by omega), e1, Nat.add_sub_cancel]]; exact lr), lr, lr, lr, trivial⟩ trivial⟩)
    | (refine .ret _ ?_
       conv => whnf
       refine ⟨[], ⟨?_, rfl⟩, trivial⟩
       conv => lhs; whnf
       congr 2
       exact (hbad _ (by omega) (by decide) (by clear p2 hbad hk hx; simp only [e1, toNat_pred] at *; unfold clsE1 strLe; grind[isKey_nil, less_nil])).symm)
 have hil : i = l.length := by omega
 subst hil
 have P1 := firstAt_zero p2
 clear hbad hx p2
 conv => whnf
 repeat' (first | (refine br_intro ?_ ?_ <;> intro hb <;> (try simp only [brs] at hb) <;> conv => whnf) | (refine RegX.rule (id := 24) hT rfl [] oTFlF83_24 (by decide +kernel) ?_; conv => whnf) | omega | (refine And.intro ?_ ?_; ((try dsimp only); first | omega | (refine szA rfl ?_; omega) | (refine szB rfl ?_; omega) | (unfold inI64; omega) | exact rfl | (simp only [lns] at *; omega) | decide | (unfold inI64; decide)); conv => whnf) | decide | assumption)
 all_goals try (exfalso; omega)
 refine LoopX.rule hT (C := []) (ι := Nat) (fun i => i ≤ l.length ∧ ∀ j, j < i → clsE2 l j = 0) (fun i => mkSt [(0, .d (clss l)), (42, .d (clss l)), (43, .d (.int .i64 l.length)), (44, .d (.int .i64 i))] []) (fun i => l.length - i) 0 ⟨by omega, by omega⟩ (by (refine Entails.mk' [] rfl rfl ?_ ?_ <;> repeat' (first | exact True.intro | exact lr | exact rr | exact SV.le_int (by omega) | exact SV.le_any _ | refine And.intro ?_ ?_)); done) ?_
 rintro i ⟨p1, p2⟩
 have e1 : (i : Int).toNat = i := Int.toNat_natCast i
 have hbad : ∀ e : Int, i < l.length → e ≠ 0 → clsE2 l i = e → clssE l = e := fun e h h1 h2 => by
  unfold clssE; rw [if_neg (by omega), firstE, if_pos P1, firstE, firstAt_eq h p2 h1 h2, if_neg h1]
 rcases Nat.lt_or_ge i l.length with hi | hi
 · conv => whnf
   repeat' (first | (refine CallX.exact (z84 l (by omega) _) rfl rfl ?_; rotate_right; conv => whnf) | (refine br_intro ?_ ?_ <;> intro hb <;> (try simp only [brs] at hb) <;> conv => whnf) | (refine RegX.rule (id := 24) hT rfl [] oTFlF83_24 (by decide +kernel) ?_; conv => whnf) | omega | (refine And.intro ?_ ?_; ((try dsimp only); first | omega | (refine szA rfl ?_; omega) | (refine szB rfl ?_; omega) | (unfold inI64; omega) | exact rfl | (simp only [lns] at *; omega) | decide | (unfold inI64; decide)); conv => whnf) | decide | assumption)
   all_goals try (exfalso; omega)
   all_goals first
    | (refine ⟨i + 1, ⟨by omega, first_step p2 (by clear p2 hbad hk; simp only [e1] at *; unfold clsE2; grind)⟩, by omega, (by (refine Entails.mk' [] rfl rfl ?_ ?_ <;> repeat' (first | exact True.intro | exact lr | exact rr | exact SV.le_int (by omega) | exact SV.le_any _ | refine And.intro ?_ ?_)); done)⟩)
    | (refine .ret _ ?_
       conv => whnf
       refine ⟨[], ⟨?_, rfl⟩, trivial⟩
       conv => lhs; whnf
       congr 2
       exact (hbad _ (by omega) (by decide) (by clear p2 hbad hk; simp only [e1] at *; unfold clsE2; grind)).symm)
 have hil : i = l.length := by omega
 subst hil
 have P2 := firstAt_zero p2
 have hu : upsOk l := fun c hc hn => by
  obtain ⟨j, hj, rfl⟩ := mem_getD (d := cls0) hc
  have := p2 j hj
  unfold clsE2 at this
  rcases Int.lt_or_le (clIx l (l.getD j cls0).up) 0 with q | q
  · rw [if_pos ⟨hn, q⟩] at this; cases this
  · exact q
 clear hbad p2
 conv => whnf
 repeat' (first | (refine br_intro ?_ ?_ <;> intro hb <;> (try simp only [brs] at hb) <;> conv => whnf) | (refine RegX.rule (id := 24) hT rfl [] oTFlF83_24 (by decide +kernel) ?_; conv => whnf) | omega | (refine And.intro ?_ ?_; ((try dsimp only); first | omega | (refine szA rfl ?_; omega) | (refine szB rfl ?_; omega) | (unfold inI64; omega) | exact rfl | (simp only [lns] at *; omega) | decide | (unfold inI64; decide)); conv => whnf) | decide | assumption)
 all_goals try (exfalso; omega)
 refine LoopX.rule hT (C := []) (ι := Nat) (fun i => i ≤ l.length ∧ ∀ j, j < i → clsE3 l j = 0) (fun i => mkSt [(0, .d (clss l)), (59, .d (clss l)), (60, .d (.int .i64 l.length)), (61, .d (.int .i64 i))] []) (fun i => l.length - i) 0 ⟨by omega, by omega⟩ (by (refine Entails.mk' [] rfl rfl ?_ ?_ <;> repeat' (first | exact True.intro | exact lr | exact rr | exact SV.le_int (by omega) | exact SV.le_any _ | refine And.intro ?_ ?_)); done) ?_
 rintro i ⟨p1, p2⟩
 have e1 : (i : Int).toNat = i := Int.toNat_natCast i
 have hbad : ∀ e : Int, i < l.length → e ≠ 0 → clsE3 l i = e → clssE l = e := fun e h h1 h2 => by
  unfold clssE; rw [if_neg (by omega), firstE, if_pos P1, firstE, if_pos P2, firstE, firstAt_eq h p2 h1 h2, if_neg h1]
 rcases Nat.lt_or_ge i l.length with hi | hi
 · have hin := clIx_pos (l := l) (c := l.getD (i : Int).toNat cls0) (getD_mem (by omega))
   have hal := abv_len l (l.length + 1) (l.getD (i : Int).toNat cls0).key
   have hlo := loop_eq hu hin
   conv => whnf
   repeat' (first | (refine CallX.exact (z154 l hlen hu _ hin) rfl rfl ?_; rotate_right; conv => whnf) | (refine CallX.exact (z153 _ (by omega) _) rfl rfl ?_; rotate_right; conv => whnf) | (refine br_intro ?_ ?_ <;> intro hb <;> (try simp only [brs] at hb) <;> conv => whnf) | (refine RegX.rule (id := 24) hT rfl [] oTFlF83_24 (by decide +kernel) ?_; conv => whnf) | omega | (refine And.intro ?_ ?_; ((try dsimp only); first | omega | (refine szA rfl ?_; omega) | (refine szB rfl ?_; omega) | (unfold inI64; omega) | exact rfl | (simp only [lns] at *; omega) | decide | (unfold inI64; decide)); conv => whnf) | decide | assumption)
   all_goals try (exfalso; omega)
   all_goals first
    | (refine ⟨i + 1, ⟨by omega, first_step p2 (by clear p2 hbad hk; simp only [e1] at *; unfold clsE3; grind)⟩, by omega, (by (refine Entails.mk' [] rfl rfl ?_ ?_ <;> repeat' (first | exact True.intro | exact lr | exact rr | exact SV.le_int (by omega) | exact SV.le_any _ | refine And.intro ?_ ?_)); done)⟩)
    | (refine .ret _ ?_
       conv => whnf
       refine ⟨[], ⟨?_, rfl⟩, trivial⟩
       conv => lhs; whnf
       congr 2
       exact (hbad _ (by omega) (by decide) (by clear p2 hbad hk; simp only [e1] at *; unfold clsE3; grind)).symm)
 have hil : i = l.length := by omega
 subst hil
 have P3 := firstAt_zero p2
 conv => whnf
 repeat' (first | (refine br_intro ?_ ?_ <;> intro hb <;> (try simp only [brs] at hb) <;> conv => whnf) | (refine RegX.rule (id := 24) hT rfl [] oTFlF83_24 (by decide +kernel) ?_; conv => whnf) | omega | (refine And.intro ?_ ?_; ((try dsimp only); first | omega | (refine szA rfl ?_; omega) | (refine szB rfl ?_; omega) | (unfold inI64; omega) | exact rfl | (simp only [lns] at *; omega) | decide | (unfold inI64; decide)); conv => whnf) | decide | assumption)
 all_goals try (exfalso; omega)
 refine .ret _ ?_
 conv => whnf
 refine ⟨[], ⟨?_, rfl⟩, trivial⟩
 conv => lhs; whnf
 unfold clssE
 rw [if_neg (by omega), firstE, if_pos P1, firstE, if_pos P2, firstE, if_pos P3]
 rfl
end Go.Proofs.YtcjfniddeibbhaaGreatDoor
