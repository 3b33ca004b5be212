/- BlamesFall is proved: for every input the law returns true, and its argument reads afterwards as it read before. Conditions: those of the given row alone. -/
import Derived.Test.YtcjfniddeibbhaaGreatDoorBfConOne
import Derived.Test.YtcjfniddeibbhaaGreatDoorBfEngTwo
import Derived.Shelf.Small.Strs
import Derived.Test.YtcjfniddeibbhaaGreatDoorProg
set_option linter.unusedVariables false
set_option linter.unusedSimpArgs false
set_option maxRecDepth 20000
namespace Go.Proofs.YtcjfniddeibbhaaGreatDoor
open Go Go.Eng
def rgB (r : Rdg) : Prop := r.st.length ≤ 8
def lgBd (x : Leg) : Prop := x.veh.length ≤ 8 ∧ rgB x.out ∧ rgB x.inn
def hiB (k : Nat) (h : Hir) : Prop := h.key.length ≤ 8 ∧ h.drv.length ≤ 8 ∧ h.legs.length ≤ k ∧ ∀ x ∈ h.legs, lgBd x
theorem hiB_le {k m : Nat} {h : Hir} (q : hiB k h) (hk : k ≤ m) : hiB m h := ⟨q.1, q.2.1, by have := q.2.2.1; omega, q.2.2.2⟩
theorem hiB_K {k : Nat} {h : Hir} (q : hiB k h) (hk : k ≤ 1000) : hiK h := by
  obtain ⟨h1, h2, h3, h4⟩ := q
  refine ⟨by omega, by omega, by omega, fun x hx => ?_⟩
  obtain ⟨a, b, c⟩ := h4 x hx
  unfold rgB at b c
  exact ⟨by omega, by omega, by omega⟩
theorem hiB_0 {k : Nat} : hiB k hi0 := ⟨by simp [hi0], by simp [hi0], by simp [hi0], fun x hx => by cases hx⟩
abbrev rcell (r : Rdg) : Res := .cells 160 [.d (.int .i64 r.tm), .d (.str r.st), .d (.int .i64 r.meter), .d (.int .i64 r.fuel)]
abbrev vcell (v : List UInt8) : Res := .cells 9 [.d (.str v)]
abbrev hbuf (h : Hir) (d : Nat) : Res := .cells 130 [.d (.str h.key), .d (.str h.drv), .d (.int .i64 h.frm), .d (.int .i64 h.to), .buf d]
abbrev zcell : Res := .cells 130 [.d (.str []), .d (.str []), .d (.int .i64 0), .d (.int .i64 0), .d .nilsl]
abbrev lgBf (l : List Leg) : Res := seqB 162 9 lgF lg0 l
def rgN : Rdg := ⟨-1, [], 0, 0⟩
def setIn (l : List Leg) (r : Rdg) : List Leg := l.set ((l.length : Int) - 1).toNat { l.getD ((l.length : Int) - 1).toNat lg0 with inn := r }
theorem setIn_len (l : List Leg) (r : Rdg) : (setIn l r).length = l.length := by simp [setIn]
theorem setIn_B {l : List Leg} {r : Rdg} (h : ∀ x ∈ l, lgBd x) (hr : rgB r) : ∀ x ∈ setIn l r, lgBd x := fun x hx => by
  unfold setIn at hx
  rcases List.mem_or_eq_of_mem_set hx with q | q
  · exact h x q
  · subst q
    by_cases e : ((l.length : Int) - 1).toNat < l.length
    · have := h _ (getD_mem (x := lg0) e)
      exact ⟨this.1, this.2.1, hr⟩
    · have : l.getD ((l.length : Int) - 1).toNat lg0 = lg0 := by rw [List.getD_eq_getElem?_getD, List.getElem?_eq_none (by omega)]; rfl
      rw [this]
      exact ⟨by simp [lg0], by simp [lg0, rgB, rg0], hr⟩
theorem Res.le_put_snocF {α : Type} {f : α → List DV} {d x y : α} {l : List α} {e k j off : Nat} {ds : List DV} {h : Nat → List DV} (hj : ∀ z, l[j]? = some z → setAtD (f z) off ds = f x) (hx : h 0 = f y) :
    Res.le (.buf e k (l.length + 1) (appGet l.length (fun i => bif Nat.beq i j then setAtD (rowF f d l i) off ds else rowF f d l i) h)) (seqB e k f d (l.set j x ++ [y])) := by
  refine Res.le_buf (by simp) (fun i hi => ?_)
  have h1 := rows_putF (f := f) (d := d) (l := l) (x := x) (j := j) (off := off) (ds := ds) hj
  rcases Nat.lt_or_ge i l.length with q | q
  · rw [appGet_lt q, h1 i q]
    simp only [rowF]
    rw [getD_app_lt (by simpa using q)]
  · have : i = l.length := by omega
    subst this
    rw [appGet_ge (Nat.le_refl _), Nat.sub_self, hx]
    simp only [rowF]
    congr 1
    rw [List.getD_eq_getElem?_getD, List.getElem?_append_right (by simp)]
    simp
theorem setIn_put {l : List Leg} {r : Rdg} : ∀ z, l[((l.length : Int) - 1).toNat]? = some z → setAtD (lgF z) 5 [.int .i64 r.tm, .str r.st, .int .i64 r.meter, .int .i64 r.fuel] = lgF { l.getD ((l.length : Int) - 1).toNat lg0 with inn := r } := fun z hz => by
  rw [List.getD_eq_getElem?_getD, hz]; rfl
-- Reading
theorem sRdg (n : Nat) (L : Nat → Int) (hL : Rok n L) (a : Int) (h0 : 0 ≤ a) (ha : a ≤ 2^38) (t : Int) (h1 : -2^41 ≤ t) (h2 : t ≤ 2^41) :
    FSpec Tryz.prog 145 [.ptr 1000000 0, .d (.int .i64 t)] [(1000000, strm n L a)] (fun y r => (∃ x : Rdg, rgB x ∧ y = .agg ((rgF x).map .d)) ∧ Moved n L a 12 r) := by
  refine spec_of hT (C := []) Tryz.func145 rfl Tryz.call145 rfl rfl rfl ?_
  conv => whnf
  repeat' (first
    | (refine CallX.of (s15 n L hL _ ?_ ?_ [[115, 49], [115, 49], [115, 50], [115, 51]] (by simp) (by simp)) [(1000000, 1000000)] rfl ⟨SV.le_refl _, SV.le_lit rfl rfl, trivial⟩ ⟨Res.le_refl _, trivial⟩ rfl rfl ?_; rotate_right; rintro x rout ⟨⟨u1, hu1, rfl⟩, ⟨c, c1, c2, rfl⟩⟩; have hw1 := mem_len hu1 rfl; refine ⟨rfl, ?_⟩; conv => whnf)
    | (refine CallX.of (s33 n L hL _ ?_ ?_ [0, 5, 100, 500, 999990, 999999] ?_ ?_) [(1000000, 1000000)] rfl ⟨SV.le_refl _, SV.le_lit rfl rfl, trivial⟩ ⟨Res.le_refl _, trivial⟩ rfl rfl ?_; rotate_right; rintro x rout ⟨⟨u2, hu2, rfl⟩, ⟨c, c1, c2, rfl⟩⟩; refine ⟨rfl, ?_⟩; conv => whnf)
    | (refine CallX.of (s64 n L hL _ ?_ ?_ 0 8 ?_ ?_ ?_ ?_) [(1000000, 1000000)] rfl ⟨SV.le_refl _, SV.le_refl _, SV.le_refl _, trivial⟩ ⟨Res.le_refl _, trivial⟩ rfl rfl ?_; rotate_right; rintro x rout ⟨⟨u3, hu3, hu3', rfl⟩, ⟨c, c1, c2, rfl⟩⟩; refine ⟨rfl, ?_⟩; conv => whnf)
    | (refine CallX.of (s84 n L hL _ ?_ ?_ _ ?_) [(1000000, 1000000)] rfl ⟨SV.le_refl _, SV.le_refl _, trivial⟩ ⟨Res.le_refl _, trivial⟩ rfl rfl ?_; rotate_right; rintro x rout ⟨⟨f, rfl⟩, ⟨c, c1, c2, rfl⟩⟩; refine ⟨rfl, ?_⟩; conv => whnf)
    | (refine CallX.of (s33 n L hL _ ?_ ?_ [t, t + 1, -1, 5761440] (by simp) (by simp)) [(1000000, 1000000)] rfl ⟨SV.le_refl _, SV.le_lit rfl rfl, trivial⟩ ⟨Res.le_refl _, trivial⟩ rfl rfl ?_; rotate_right; rintro x rout ⟨⟨u4, hu4, rfl⟩, ⟨c, c1, c2, rfl⟩⟩; refine ⟨rfl, ?_⟩; conv => whnf)
    | (refine CallX.of (s15 n L hL _ ?_ ?_ [[115, 49], [], [65]] (by simp) (by simp)) [(1000000, 1000000)] rfl ⟨SV.le_refl _, SV.le_lit rfl rfl, trivial⟩ ⟨Res.le_refl _, trivial⟩ rfl rfl ?_; rotate_right; rintro x rout ⟨⟨u5, hu5, rfl⟩, ⟨c, c1, c2, rfl⟩⟩; have hw1 := mem_len hu5 rfl; refine ⟨rfl, ?_⟩; conv => whnf)
    | (refine CallX.of (s104 n L hL _ ?_ ?_ 0 999999 ?_ ?_ ?_) [(1000000, 1000000)] rfl ⟨SV.le_refl _, SV.le_refl _, SV.le_refl _, trivial⟩ ⟨Res.le_refl _, trivial⟩ rfl rfl ?_; rotate_right; rintro x rout ⟨⟨u6, h6, h6', rfl⟩, ⟨c, c1, c2, rfl⟩⟩; refine ⟨rfl, ?_⟩; conv => whnf)
    | (refine CallX.of (s104 n L hL _ ?_ ?_ 0 8 ?_ ?_ ?_) [(1000000, 1000000)] rfl ⟨SV.le_refl _, SV.le_refl _, SV.le_refl _, trivial⟩ ⟨Res.le_refl _, trivial⟩ rfl rfl ?_; rotate_right; rintro x rout ⟨⟨u7, h7, h7', rfl⟩, ⟨c, c1, c2, rfl⟩⟩; refine ⟨rfl, ?_⟩; conv => whnf)
    | (refine br_intro (fun hb => ?_) (fun hb => ?_) <;> (try simp only [decide_eq_true_eq, decide_eq_false_iff_not, Bool.not_eq_true', Bool.not_eq_false', Bool.and_eq_true, Bool.or_eq_true, beq_iff_eq, not_and, Int.not_le, Int.not_lt, Int.toNat_natCast, beq_eq_false_iff_ne, ne_eq, eq_self, not_true_eq_false, not_false_eq_true] at hb) <;> (conv => whnf))
    | omega
    | (refine And.intro ?_ ?_; ((try dsimp only); first | omega | (refine ⟨by omega, by omega, Int.le_trans (Int.mul_le_mul_of_nonneg_right (Int.ofNat_le.2 (Nat.le_of_ble_eq_true (rfl : Nat.ble _ 1024 = true))) (by omega)) (by omega), by omega⟩) | (refine Nat.le_trans (Nat.mul_le_mul_left _ (Nat.le_of_ble_eq_true (rfl : Nat.ble _ 1024 = true))) ?_; omega) | (unfold inI64; omega) | (constructor <;> omega) | (simp only [inI64, List.length_cons, List.length_append, List.length_nil, List.length_set] at *; omega) | decide | (unfold inI64; decide)); conv => whnf)
    | omega | decide | assumption)
  all_goals
    refine .ret _ ?_
    conv => whnf
    exact ⟨[(1000000, strm n L _)], ⟨⟨⟨_, _, _, _⟩, hw1, rfl⟩, _, by omega, by omega, rfl⟩, Res.le_refl _, trivial⟩
-- Window
theorem sWin (n : Nat) (L : Nat → Int) (hL : Rok n L) (a : Int) (h0 : 0 ≤ a) (ha : a ≤ 2^38) :
    FSpec Tryz.prog 32 [.ptr 1000000 0] [(1000000, strm n L a)] (fun y r => (∃ u v : Int, y = .agg [.d (.int .i64 u), .d (.int .i64 v)]) ∧ Moved n L a 12 r) := by
  refine spec_of hT (C := []) Tryz.func32 rfl Tryz.call32 rfl rfl rfl ?_
  conv => whnf
  repeat' (first
    | (refine CallX.of (s33 n L hL _ ?_ ?_ [0, 0, 10, 100, 400, 1440, 5000, 10080] ?_ ?_) [(1000000, 1000000)] rfl ⟨SV.le_refl _, SV.le_lit rfl rfl, trivial⟩ ⟨Res.le_refl _, trivial⟩ rfl rfl ?_; rotate_right; rintro x rout ⟨⟨u1, hu1, rfl⟩, ⟨c, c1, c2, rfl⟩⟩; refine ⟨rfl, ?_⟩; conv => whnf)
    | (refine CallX.of (s33 n L hL _ ?_ ?_ [0, 10, 100, 400, 1000, 10080, 30000, 5761440] ?_ ?_) [(1000000, 1000000)] rfl ⟨SV.le_refl _, SV.le_lit rfl rfl, trivial⟩ ⟨Res.le_refl _, trivial⟩ rfl rfl ?_; rotate_right; rintro x rout ⟨⟨u2, hu2, rfl⟩, ⟨c, c1, c2, rfl⟩⟩; refine ⟨rfl, ?_⟩; conv => whnf)
    | (refine CallX.of (s84 n L hL _ ?_ ?_ _ ?_) [(1000000, 1000000)] rfl ⟨SV.le_refl _, SV.le_refl _, trivial⟩ ⟨Res.le_refl _, trivial⟩ rfl rfl ?_; rotate_right; rintro x rout ⟨⟨f, rfl⟩, ⟨c, c1, c2, rfl⟩⟩; refine ⟨rfl, ?_⟩; conv => whnf)
    | (refine CallX.of (s104 n L hL _ ?_ ?_ 0 100 ?_ ?_ ?_) [(1000000, 1000000)] rfl ⟨SV.le_refl _, SV.le_refl _, SV.le_refl _, trivial⟩ ⟨Res.le_refl _, trivial⟩ rfl rfl ?_; rotate_right; rintro x rout ⟨⟨u3, h3, h3', rfl⟩, ⟨c, c1, c2, rfl⟩⟩; refine ⟨rfl, ?_⟩; conv => whnf)
    | (refine CallX.of (s104 n L hL _ ?_ ?_ 100 5761440 ?_ ?_ ?_) [(1000000, 1000000)] rfl ⟨SV.le_refl _, SV.le_refl _, SV.le_refl _, trivial⟩ ⟨Res.le_refl _, trivial⟩ rfl rfl ?_; rotate_right; rintro x rout ⟨⟨u4, h4, h4', rfl⟩, ⟨c, c1, c2, rfl⟩⟩; refine ⟨rfl, ?_⟩; conv => whnf)
    | (refine br_intro (fun hb => ?_) (fun hb => ?_) <;> (try simp only [decide_eq_true_eq, decide_eq_false_iff_not, Bool.not_eq_true', Bool.not_eq_false', Bool.and_eq_true, Bool.or_eq_true, beq_iff_eq, not_and, Int.not_le, Int.not_lt, Int.toNat_natCast, beq_eq_false_iff_ne, ne_eq, eq_self, not_true_eq_false, not_false_eq_true] at hb) <;> (conv => whnf))
    | omega
    | (refine And.intro ?_ ?_; ((try dsimp only); first | omega | (refine ⟨by omega, by omega, Int.le_trans (Int.mul_le_mul_of_nonneg_right (Int.ofNat_le.2 (Nat.le_of_ble_eq_true (rfl : Nat.ble _ 1024 = true))) (by omega)) (by omega), by omega⟩) | (refine Nat.le_trans (Nat.mul_le_mul_left _ (Nat.le_of_ble_eq_true (rfl : Nat.ble _ 1024 = true))) ?_; omega) | (unfold inI64; omega) | (constructor <;> omega) | (simp only [inI64, List.length_cons, List.length_append, List.length_nil, List.length_set] at *; omega) | decide | (unfold inI64; decide)); conv => whnf)
    | omega | decide | assumption)
  all_goals
    refine .ret _ ?_
    conv => whnf
    exact ⟨[(1000000, strm n L _)], ⟨⟨_, _, rfl⟩, _, by omega, by omega, rfl⟩, Res.le_refl _, trivial⟩
theorem pkB {l : List Int} {x : Int} (h : x ∈ l) (hl : (l.all fun y => decide (0 ≤ y) && decide (y ≤ 100000)) = true) : 0 ≤ x ∧ x ≤ 100000 := by
  have := List.all_eq_true.1 hl x h
  simpa using this
-- Time
theorem sTim (n : Nat) (L : Nat → Int) (hL : Rok n L) (a : Int) (h0 : 0 ≤ a) (ha : a ≤ 2^38) :
    FSpec Tryz.prog 149 [.ptr 1000000 0] [(1000000, strm n L a)] (fun y r => (∃ u v : Int, y = .agg [.d (.int .i64 u), .d (.int .i64 v)]) ∧ Moved n L a 12 r) := by
  refine spec_of hT (C := []) Tryz.func149 rfl Tryz.call149 rfl rfl rfl ?_
  conv => whnf
  repeat' (first
    | (refine CallX.of (s33 n L hL _ ?_ ?_ [0, 0, 700, 5040, 5700, 6480, 6500, 8000, 10079, 20000] ?_ ?_) [(1000000, 1000000)] rfl ⟨SV.le_refl _, SV.le_lit rfl rfl, trivial⟩ ⟨Res.le_refl _, trivial⟩ rfl rfl ?_; rotate_right; rintro x rout ⟨⟨u1, hu1, rfl⟩, ⟨c, c1, c2, rfl⟩⟩; have hw1 := pkB hu1 (by decide); refine ⟨rfl, ?_⟩; conv => whnf)
    | (refine CallX.of (s33 n L hL _ ?_ ?_ [1, 59, 60, 61, 300, 1440, 1441, 1500, 2880, 4320, 5850, 7200, 8641, 10080, 11520, 14800, 21600] ?_ ?_) [(1000000, 1000000)] rfl ⟨SV.le_refl _, SV.le_lit rfl rfl, trivial⟩ ⟨Res.le_refl _, trivial⟩ rfl rfl ?_; rotate_right; rintro x rout ⟨⟨u2, hu2, rfl⟩, ⟨c, c1, c2, rfl⟩⟩; have hw2 := pkB hu2 (by decide); refine ⟨rfl, ?_⟩; conv => whnf)
    | (refine CallX.of (s84 n L hL _ ?_ ?_ _ ?_) [(1000000, 1000000)] rfl ⟨SV.le_refl _, SV.le_refl _, trivial⟩ ⟨Res.le_refl _, trivial⟩ rfl rfl ?_; rotate_right; rintro x rout ⟨⟨f, rfl⟩, ⟨c, c1, c2, rfl⟩⟩; refine ⟨rfl, ?_⟩; conv => whnf)
    | (refine CallX.of (s104 n L hL _ ?_ ?_ 0 1000 ?_ ?_ ?_) [(1000000, 1000000)] rfl ⟨SV.le_refl _, SV.le_refl _, SV.le_refl _, trivial⟩ ⟨Res.le_refl _, trivial⟩ rfl rfl ?_; rotate_right; rintro x rout ⟨⟨u3, h3, h3', rfl⟩, ⟨c, c1, c2, rfl⟩⟩; refine ⟨rfl, ?_⟩; conv => whnf)
    | (refine CallX.of (s33 n L hL _ ?_ ?_ [0, 1000, 5761439, 5761440, 172800, 173801] ?_ ?_) [(1000000, 1000000)] rfl ⟨SV.le_refl _, SV.le_lit rfl rfl, trivial⟩ ⟨Res.le_refl _, trivial⟩ rfl rfl ?_; rotate_right; rintro x rout ⟨⟨u4, hu4, rfl⟩, ⟨c, c1, c2, rfl⟩⟩; refine ⟨rfl, ?_⟩; conv => whnf)
    | (refine br_intro (fun hb => ?_) (fun hb => ?_) <;> (try simp only [decide_eq_true_eq, decide_eq_false_iff_not, Bool.not_eq_true', Bool.not_eq_false', Bool.and_eq_true, Bool.or_eq_true, beq_iff_eq, not_and, Int.not_le, Int.not_lt, Int.toNat_natCast, beq_eq_false_iff_ne, ne_eq, eq_self, not_true_eq_false, not_false_eq_true] at hb) <;> (conv => whnf))
    | omega
    | (refine And.intro ?_ ?_; ((try dsimp only); first | omega | (refine ⟨by omega, by omega, Int.le_trans (Int.mul_le_mul_of_nonneg_right (Int.ofNat_le.2 (Nat.le_of_ble_eq_true (rfl : Nat.ble _ 1024 = true))) (by omega)) (by omega), by omega⟩) | (refine Nat.le_trans (Nat.mul_le_mul_left _ (Nat.le_of_ble_eq_true (rfl : Nat.ble _ 1024 = true))) ?_; omega) | (unfold inI64; omega) | (constructor <;> omega) | (simp only [inI64, List.length_cons, List.length_append, List.length_nil, List.length_set] at *; omega) | decide | (unfold inI64; decide)); conv => whnf)
    | omega | decide | assumption)
  all_goals
    refine .ret _ ?_
    conv => whnf
    exact ⟨[(1000000, strm n L _)], ⟨⟨_, _, rfl⟩, _, by omega, by omega, rfl⟩, Res.le_refl _, trivial⟩
-- made
theorem z265 (h : Hir) (hk : hiK h) : FSpec Tryz.prog 200 [.agg ((hiF h).map .d)] [] (fun y r => y = .tup [.agg ((hiF (if hirE h = 0 then h else hi0)).map .d), .d (.int .i64 (hirE h))] ∧ r = []) := by
  have h183 := z183 h hk
  by_cases q : hirE h = 0
  · rw [if_pos q]
    rw [q] at h183 ⊢
    refine spec_of hT (C := []) Tryz.func200 rfl Tryz.call200 rfl rfl rfl ?_
    conv => whnf
    repeat' (first
      | (refine CallX.exact (h183) rfl rfl ?_; rotate_right; conv => whnf)
      | (refine br_intro (fun hb => ?_) (fun hb => ?_) <;> (try simp only [decide_eq_true_eq, decide_eq_false_iff_not, Bool.not_eq_true', Bool.not_eq_false', Bool.and_eq_true, Bool.or_eq_true, beq_iff_eq, not_and, Int.not_le, Int.not_lt, Int.toNat_natCast, beq_eq_false_iff_ne, ne_eq, eq_self, not_true_eq_false, not_false_eq_true] at hb) <;> (conv => whnf))
      | omega
      | (refine And.intro ?_ ?_; ((try dsimp only); first | omega | (refine ⟨by omega, by omega, Int.le_trans (Int.mul_le_mul_of_nonneg_right (Int.ofNat_le.2 (Nat.le_of_ble_eq_true (rfl : Nat.ble _ 1024 = true))) (by omega)) (by omega), by omega⟩) | (refine Nat.le_trans (Nat.mul_le_mul_left _ (Nat.le_of_ble_eq_true (rfl : Nat.ble _ 1024 = true))) ?_; omega) | (unfold inI64; omega) | (constructor <;> omega) | (simp only [inI64, List.length_cons, List.length_append, List.length_nil, List.length_set] at *; omega) | decide | (unfold inI64; decide)); conv => whnf)
      | omega | decide | assumption)
    refine .ret _ ?_
    conv => whnf
    exact ⟨[], ⟨rfl, rfl⟩, trivial⟩
  · rw [if_neg q]
    generalize hirE h = E at h183 q
    refine spec_of hT (C := []) Tryz.func200 rfl Tryz.call200 rfl rfl rfl ?_
    conv => whnf
    repeat' (first
      | (refine CallX.exact (h183) rfl rfl ?_; rotate_right; conv => whnf)
      | (refine br_intro (fun hb => ?_) (fun hb => ?_) <;> (try simp only [decide_eq_true_eq, decide_eq_false_iff_not, Bool.not_eq_true', Bool.not_eq_false', Bool.and_eq_true, Bool.or_eq_true, beq_iff_eq, not_and, Int.not_le, Int.not_lt, Int.toNat_natCast, beq_eq_false_iff_ne, ne_eq, eq_self, not_true_eq_false, not_false_eq_true] at hb) <;> (conv => whnf))
      | omega
      | (refine And.intro ?_ ?_; ((try dsimp only); first | omega | (refine ⟨by omega, by omega, Int.le_trans (Int.mul_le_mul_of_nonneg_right (Int.ofNat_le.2 (Nat.le_of_ble_eq_true (rfl : Nat.ble _ 1024 = true))) (by omega)) (by omega), by omega⟩) | (refine Nat.le_trans (Nat.mul_le_mul_left _ (Nat.le_of_ble_eq_true (rfl : Nat.ble _ 1024 = true))) ?_; omega) | (unfold inI64; omega) | (constructor <;> omega) | (simp only [inI64, List.length_cons, List.length_append, List.length_nil, List.length_set] at *; omega) | decide | (unfold inI64; decide)); conv => whnf)
      | omega | decide | assumption)
    all_goals first
      | (exfalso; omega)
      | (refine .weak _ ?_
         conv => whnf
         exact ⟨.tup [.agg ((hiF hi0).map .d), .d (.int .i64 E)], [], SV.le_tup ⟨SV.le_agg ⟨SV.le_refl _, SV.le_refl _, SV.le_refl _, SV.le_refl _, SV.le_nilS, trivial⟩, SV.le_refl _, trivial⟩, ⟨rfl, rfl⟩, trivial⟩)
-- IsOpen
theorem z313 (h : Hir) (hl : h.legs.length ≤ 2^40) : FSpec Tryz.prog 269 [.agg ((hiF h).map .d)] [] (fun y r => (∃ b : Bool, (b = true → 1 ≤ h.legs.length) ∧ y = .d (.bool b)) ∧ r = []) := by
  refine spec_of hT (C := []) Tryz.func269 rfl Tryz.call269 rfl rfl rfl ?_
  conv => whnf
  repeat' (first
    | (refine br_intro (fun hb => ?_) (fun hb => ?_) <;> (try simp only [decide_eq_true_eq, decide_eq_false_iff_not, Bool.not_eq_true', Bool.not_eq_false', Bool.and_eq_true, Bool.or_eq_true, beq_iff_eq, not_and, Int.not_le, Int.not_lt, Int.toNat_natCast, beq_eq_false_iff_ne, ne_eq, eq_self, not_true_eq_false, not_false_eq_true] at hb) <;> (conv => whnf))
    | omega
    | (refine And.intro ?_ ?_; ((try dsimp only); first | omega | (refine ⟨by omega, by omega, Int.le_trans (Int.mul_le_mul_of_nonneg_right (Int.ofNat_le.2 (Nat.le_of_ble_eq_true (rfl : Nat.ble _ 1024 = true))) (by omega)) (by omega), by omega⟩) | (refine Nat.le_trans (Nat.mul_le_mul_left _ (Nat.le_of_ble_eq_true (rfl : Nat.ble _ 1024 = true))) ?_; omega) | (unfold inI64; omega) | (constructor <;> omega) | (simp only [inI64, List.length_cons, List.length_append, List.length_nil, List.length_set] at *; omega) | decide | (unfold inI64; decide)); conv => whnf)
    | omega | decide | assumption)
  all_goals
    refine .ret _ ?_
    conv => whnf
    exact ⟨[], ⟨⟨_, fun q => (by first | omega | cases q), rfl⟩, rfl⟩, trivial⟩
-- Clone of legs
theorem z216 (l : List Leg) (h1 : 1 ≤ l.length) (hl : l.length ≤ 2^20) : FSpec Tryz.prog 148 [.d (legs l)] [] (fun y r => y = .buf 7 ∧ r = [(7, lgBf l)]) := by
  refine spec_of hT (C := [5]) Tryz.func148 rfl Tryz.call148 rfl rfl rfl ?_
  conv => whnf
  rintro b hbn
  conv => whnf
  repeat' (first
    | (refine br_intro (fun hb => ?_) (fun hb => ?_) <;> (try simp only [decide_eq_true_eq, decide_eq_false_iff_not, Bool.not_eq_true', Bool.not_eq_false', Bool.and_eq_true, Bool.or_eq_true, beq_iff_eq, not_and, Int.not_le, Int.not_lt, Int.toNat_natCast, beq_eq_false_iff_ne, ne_eq, eq_self, not_true_eq_false, not_false_eq_true] at hb) <;> (conv => whnf))
    | omega
    | (refine And.intro ?_ ?_; ((try dsimp only); first | omega | (refine ⟨by omega, by omega, Int.le_trans (Int.mul_le_mul_of_nonneg_right (Int.ofNat_le.2 (Nat.le_of_ble_eq_true (rfl : Nat.ble _ 1024 = true))) (by omega)) (by omega), by omega⟩) | (refine Nat.le_trans (Nat.mul_le_mul_left _ (Nat.le_of_ble_eq_true (rfl : Nat.ble _ 1024 = true))) ?_; omega) | (unfold inI64; omega) | (constructor <;> omega) | (simp only [inI64, List.length_cons, List.length_append, List.length_nil, List.length_set] at *; omega) | decide | (unfold inI64; decide)); conv => whnf)
    | omega | decide | assumption)
  · exfalso
    have := hbn (by assumption)
    omega
  · refine .ret _ ?_
    conv => whnf
    refine ⟨_, ⟨rfl, rfl⟩, Res.le_buf (by simp) (fun i hi => ?_), trivial⟩
    rw [appGet_ge (by omega)]; rfl
-- StartOf
def startH (key drv : List UInt8) (a b : Int) (v : List UInt8) (o : Rdg) : Hir := ⟨key, drv, a, b, [⟨v, o, rgN⟩]⟩
theorem startH_B {key drv : List UInt8} {a b : Int} {v : List UInt8} {o : Rdg} (h1 : key.length ≤ 8) (h2 : drv.length ≤ 8) (h3 : v.length ≤ 8) (h4 : rgB o) : hiB 1 (startH key drv a b v o) :=
  ⟨h1, h2, by simp [startH], fun x hx => by simp [startH] at hx; subst hx; exact ⟨h3, h4, by simp [rgB, rgN]⟩⟩
theorem z212 (key drv : List UInt8) (a b : Int) (v : List UInt8) (o : Rdg) (h1 : key.length ≤ 8) (h2 : drv.length ≤ 8) (h3 : v.length ≤ 8) (h4 : rgB o) :
    FSpec Tryz.prog 144 [.d (.str key), .d (.str drv), .agg [.d (.int .i64 a), .d (.int .i64 b)], .d (.str v), .agg ((rgF o).map .d)] [] (fun y r => y = .tup [.agg ((hiF (if hirE (startH key drv a b v o) = 0 then startH key drv a b v o else hi0)).map .d), .d (.int .i64 (hirE (startH key drv a b v o)))] ∧ r = []) := by
  have h265 := z265 (startH key drv a b v o) (hiB_K (startH_B h1 h2 h3 h4) (by omega))
  generalize hirE (startH key drv a b v o) = E at h265 ⊢
  generalize hH : (if E = 0 then startH key drv a b v o else hi0) = H at h265 ⊢
  refine spec_of hT (C := []) Tryz.func144 rfl Tryz.call144 rfl rfl rfl ?_
  conv => whnf
  repeat' (first
    | (refine CallX.pure h265 ⟨SV.le_agg ⟨SV.le_refl _, SV.le_refl _, SV.le_refl _, SV.le_refl _, SV.le_lit rfl rfl, trivial⟩, trivial⟩ rfl ?_; conv => whnf)
    | (refine br_intro (fun hb => ?_) (fun hb => ?_) <;> (try simp only [decide_eq_true_eq, decide_eq_false_iff_not, Bool.not_eq_true', Bool.not_eq_false', Bool.and_eq_true, Bool.or_eq_true, beq_iff_eq, not_and, Int.not_le, Int.not_lt, Int.toNat_natCast, beq_eq_false_iff_ne, ne_eq, eq_self, not_true_eq_false, not_false_eq_true] at hb) <;> (conv => whnf))
    | omega
    | (refine And.intro ?_ ?_; ((try dsimp only); first | omega | (refine ⟨by omega, by omega, Int.le_trans (Int.mul_le_mul_of_nonneg_right (Int.ofNat_le.2 (Nat.le_of_ble_eq_true (rfl : Nat.ble _ 1024 = true))) (by omega)) (by omega), by omega⟩) | (refine Nat.le_trans (Nat.mul_le_mul_left _ (Nat.le_of_ble_eq_true (rfl : Nat.ble _ 1024 = true))) ?_; omega) | (unfold inI64; omega) | (constructor <;> omega) | (simp only [inI64, List.length_cons, List.length_append, List.length_nil, List.length_set] at *; omega) | decide | (unfold inI64; decide)); conv => whnf)
    | omega | decide | assumption)
  refine .ret _ ?_
  conv => whnf
  exact ⟨[], ⟨rfl, rfl⟩, trivial⟩
-- CloseOf's change
theorem z268 (h : Hir) (h1 : 1 ≤ h.legs.length) (hl : h.legs.length ≤ 2^20) (r : Rdg) :
    FSpec Tryz.prog 203 [.ptr 1000001 0, .ptr 1000002 0] [(1000001, hbuf h 1000005), (1000002, rcell r), (1000005, lgBf h.legs)] (fun y o => y = .tup [] ∧ o = [(1000001, hbuf h 1000005), (1000002, rcell r), (1000005, lgBf (setIn h.legs r))]) := by
  refine spec_of hT (C := []) Tryz.func203 rfl Tryz.call203 rfl rfl rfl ?_
  conv => whnf
  repeat' (first
    | (refine br_intro (fun hb => ?_) (fun hb => ?_) <;> (try simp only [decide_eq_true_eq, decide_eq_false_iff_not, Bool.not_eq_true', Bool.not_eq_false', Bool.and_eq_true, Bool.or_eq_true, beq_iff_eq, not_and, Int.not_le, Int.not_lt, Int.toNat_natCast, beq_eq_false_iff_ne, ne_eq, eq_self, not_true_eq_false, not_false_eq_true] at hb) <;> (conv => whnf))
    | (refine RegX.rule (id := 0) hT rfl [] [(0, []), (1, []), (2, []), (3, []), (4, [0, 1, 2, 3]), (5, [0, 1, 2, 3]), (6, [0, 1, 2, 3]), (7, [0, 1, 2, 3]), (8, [0, 1, 2, 3]), (9, [0, 1, 2, 3]), (10, [0, 1, 2, 3, 4, 5, 6, 7, 8, 9]), (11, []), (12, []), (13, [])] (by decide +kernel) ?_; conv => whnf)
    | omega
    | (refine And.intro ?_ ?_; ((try dsimp only); first | omega | (refine ⟨by omega, by omega, Int.le_trans (Int.mul_le_mul_of_nonneg_right (Int.ofNat_le.2 (Nat.le_of_ble_eq_true (rfl : Nat.ble _ 1024 = true))) (by omega)) (by omega), by omega⟩) | (refine Nat.le_trans (Nat.mul_le_mul_left _ (Nat.le_of_ble_eq_true (rfl : Nat.ble _ 1024 = true))) ?_; omega) | (unfold inI64; omega) | (constructor <;> omega) | (simp only [inI64, List.length_cons, List.length_append, List.length_nil, List.length_set] at *; omega) | decide | (unfold inI64; decide)); conv => whnf)
    | omega | decide | assumption)
  refine .ret _ ?_
  conv => whnf
  exact ⟨_, ⟨rfl, rfl⟩, Res.le_refl _, Res.le_refl _, Res.le_putF setIn_put, trivial⟩
-- ExchangeOf's change
theorem z267 (h : Hir) (h1 : 1 ≤ h.legs.length) (hl : h.legs.length ≤ 2^20) (ri ro : Rdg) (v : List UInt8) :
    FSpec Tryz.prog 202 [.ptr 1000001 0, .ptr 1000002 0, .ptr 1000003 0, .ptr 1000004 0] [(1000001, hbuf h 1000005), (1000002, rcell ri), (1000003, vcell v), (1000004, rcell ro), (1000005, lgBf h.legs)]
      (fun y o => y = .tup [] ∧ o = [(1000001, hbuf h 28), (1000002, rcell ri), (1000003, vcell v), (1000004, rcell ro), (28, lgBf (setIn h.legs ri ++ [⟨v, ro, rgN⟩]))]) := by
  refine spec_of hT (C := []) Tryz.func202 rfl Tryz.call202 rfl rfl rfl ?_
  conv => whnf
  repeat' (first
    | (refine br_intro (fun hb => ?_) (fun hb => ?_) <;> (try simp only [decide_eq_true_eq, decide_eq_false_iff_not, Bool.not_eq_true', Bool.not_eq_false', Bool.and_eq_true, Bool.or_eq_true, beq_iff_eq, not_and, Int.not_le, Int.not_lt, Int.toNat_natCast, beq_eq_false_iff_ne, ne_eq, eq_self, not_true_eq_false, not_false_eq_true] at hb) <;> (conv => whnf))
    | (refine RegX.rule (id := 0) hT rfl [] [(0, []), (1, []), (2, []), (3, []), (4, [0, 1, 2, 3]), (5, [0, 1, 2, 3]), (6, [0, 1, 2, 3]), (7, [0, 1, 2, 3]), (8, [0, 1, 2, 3]), (9, [0, 1, 2, 3]), (10, [0, 1, 2, 3, 4, 5, 6, 7, 8, 9]), (11, []), (12, []), (13, [])] (by decide +kernel) ?_; conv => whnf)
    | (refine RegX.rule (id := 1) hT rfl [] [(0, []), (1, [0]), (2, [0]), (3, [0]), (4, [0]), (5, [0, 1, 2, 3, 4]), (6, [0, 1, 2, 3, 4, 5]), (7, [0, 1, 2, 3, 4, 5, 6]), (8, [0, 1, 2, 3, 4]), (9, [0, 1, 2, 3, 4]), (10, [0]), (11, []), (12, []), (13, [])] (by decide +kernel) ?_; conv => whnf)
    | omega
    | (refine And.intro ?_ ?_; ((try dsimp only); first | omega | (refine ⟨by omega, by omega, Int.le_trans (Int.mul_le_mul_of_nonneg_right (Int.ofNat_le.2 (Nat.le_of_ble_eq_true (rfl : Nat.ble _ 1024 = true))) (by omega)) (by omega), by omega⟩) | (refine Nat.le_trans (Nat.mul_le_mul_left _ (Nat.le_of_ble_eq_true (rfl : Nat.ble _ 1024 = true))) ?_; omega) | (unfold inI64; omega) | (constructor <;> omega) | (simp only [inI64, List.length_cons, List.length_append, List.length_nil, List.length_set] at *; omega) | decide | (unfold inI64; decide)); conv => whnf)
    | omega | decide | assumption)
  refine .ret _ ?_
  conv => whnf
  exact ⟨_, ⟨rfl, rfl⟩, Res.le_refl _, Res.le_refl _, Res.le_refl _, Res.le_refl _, Res.le_put_snocF setIn_put rfl, trivial⟩
-- changed, of ExchangeOf
set_option maxHeartbeats 1000000 in
theorem z266x (k : Nat) (hk : k ≤ 100) (h : Hir) (hh : hiB k h) (ri ro : Rdg) (v : List UInt8) (h2 : rgB ri) (h3 : rgB ro) (h4 : v.length ≤ 8) :
    FSpec Tryz.prog 201 [.agg ((hiF h).map .d), .fn 202 [.ptr 1000002 0, .ptr 1000003 0, .ptr 1000004 0]] [(1000002, rcell ri), (1000003, vcell v), (1000004, rcell ro)]
      (fun y o => (∃ (h' : Hir) (e : Int), hiB (k + 1) h' ∧ (e = 0 → 1 ≤ h'.legs.length) ∧ y = .tup [.agg ((hiF h').map .d), .d (.int .i64 e)]) ∧ o = [(1000002, rcell ri), (1000003, vcell v), (1000004, rcell ro)]) := by
  have hl := hh.2.2.1
  refine spec_of hT (C := []) Tryz.func201 rfl Tryz.call201 rfl rfl rfl ?_
  conv => whnf
  repeat' (first
    | (refine CallX.of (z313 h (by omega)) [] rfl ⟨SV.le_refl _, trivial⟩ trivial rfl rfl ?_; rintro x rout ⟨⟨b, hb1, rfl⟩, rfl⟩; refine ⟨rfl, ?_⟩; conv => whnf)
    | (refine br_intro (fun hb => ?_) (fun hb => ?_) <;> (try simp only [decide_eq_true_eq, decide_eq_false_iff_not, Bool.not_eq_true', Bool.not_eq_false', Bool.and_eq_true, Bool.or_eq_true, beq_iff_eq, not_and, Int.not_le, Int.not_lt, Int.toNat_natCast, beq_eq_false_iff_ne, ne_eq, eq_self, not_true_eq_false, not_false_eq_true] at hb) <;> (conv => whnf))
    | omega
    | (refine And.intro ?_ ?_; ((try dsimp only); first | omega | (refine ⟨by omega, by omega, Int.le_trans (Int.mul_le_mul_of_nonneg_right (Int.ofNat_le.2 (Nat.le_of_ble_eq_true (rfl : Nat.ble _ 1024 = true))) (by omega)) (by omega), by omega⟩) | (refine Nat.le_trans (Nat.mul_le_mul_left _ (Nat.le_of_ble_eq_true (rfl : Nat.ble _ 1024 = true))) ?_; omega) | (unfold inI64; omega) | (constructor <;> omega) | (simp only [inI64, List.length_cons, List.length_append, List.length_nil, List.length_set] at *; omega) | decide | (unfold inI64; decide)); conv => whnf)
    | omega | decide | assumption)
  · refine .weak _ ?_
    conv => whnf
    exact ⟨.tup [.agg ((hiF hi0).map .d), .d (.int .i64 11)], _, SV.le_tup ⟨SV.le_agg ⟨SV.le_refl _, SV.le_refl _, SV.le_refl _, SV.le_refl _, SV.le_nilS, trivial⟩, SV.le_refl _, trivial⟩, ⟨⟨hi0, 11, hiB_0, fun q => absurd q (by decide), rfl⟩, rfl⟩, Res.le_refl _, Res.le_refl _, Res.le_refl _, trivial⟩
  · have hn : 1 ≤ h.legs.length := hb1 (by simpa using hb)
    obtain ⟨H, hH⟩ : ∃ H : Hir, H = ⟨h.key, h.drv, h.frm, h.to, setIn h.legs ri ++ [⟨v, ro, rgN⟩]⟩ := ⟨_, rfl⟩
    have hB : hiB (k + 1) H := by
      subst hH
      refine ⟨hh.1, hh.2.1, by simp [setIn_len]; omega, fun x hx => ?_⟩
      rcases List.mem_append.1 hx with q | q
      · exact setIn_B hh.2.2.2 h2 x q
      · simp at q; subst q; exact ⟨h4, h3, by simp [rgB, rgN]⟩
    have hHl : 1 ≤ H.legs.length := by subst hH; simp
    have h265 := z265 H (hiB_K hB (by omega))
    generalize hirE H = E at h265
    have hres : ∃ (h' : Hir), hiB (k + 1) h' ∧ (E = 0 → 1 ≤ h'.legs.length) ∧ (if E = 0 then H else hi0) = h' := by
      by_cases q : E = 0
      · rw [if_pos q]; exact ⟨H, hB, fun _ => hHl, rfl⟩
      · rw [if_neg q]; exact ⟨hi0, hiB_0, fun p => absurd p q, rfl⟩
    obtain ⟨H', hB', hl', he'⟩ := hres
    rw [he'] at h265
    subst hH
    refine CallX.of (z216 h.legs hn (by omega)) [(7, 20)] rfl ⟨SV.le_refl _, trivial⟩ trivial rfl rfl ?_
    rintro x rout ⟨rfl, rfl⟩
    refine ⟨rfl, ?_⟩
    conv => whnf
    repeat' (first
      | (refine CallX.of (z267 h hn (by omega) ri ro v) [(1000001, 2), (1000002, 1000002), (1000003, 1000003), (1000004, 1000004), (1000005, 20), (28, 40)] rfl ⟨SV.le_refl _, SV.le_refl _, SV.le_refl _, SV.le_refl _, trivial⟩ ⟨Res.le_refl _, Res.le_refl _, Res.le_refl _, Res.le_refl _, Res.le_refl _, trivial⟩ rfl rfl ?_; rintro x rout ⟨rfl, rfl⟩; refine ⟨rfl, ?_⟩; conv => whnf)
      | (refine CallX.freeze _ _ _ _ 40 162 9 _ _ rfl rfl ?_; refine CallX.pure h265 ⟨SV.le_agg ⟨SV.le_refl _, SV.le_refl _, SV.le_refl _, SV.le_refl _, SV.le_refl _, trivial⟩, trivial⟩ rfl ?_; conv => whnf)
      | (refine br_intro (fun hb => ?_) (fun hb => ?_) <;> (try simp only [decide_eq_true_eq, decide_eq_false_iff_not, Bool.not_eq_true', Bool.not_eq_false', Bool.and_eq_true, Bool.or_eq_true, beq_iff_eq, not_and, Int.not_le, Int.not_lt, Int.toNat_natCast, beq_eq_false_iff_ne, ne_eq, eq_self, not_true_eq_false, not_false_eq_true] at hb) <;> (conv => whnf))
      | omega
      | (refine And.intro ?_ ?_; ((try dsimp only); first | omega | (refine ⟨by omega, by omega, Int.le_trans (Int.mul_le_mul_of_nonneg_right (Int.ofNat_le.2 (Nat.le_of_ble_eq_true (rfl : Nat.ble _ 1024 = true))) (by omega)) (by omega), by omega⟩) | (refine Nat.le_trans (Nat.mul_le_mul_left _ (Nat.le_of_ble_eq_true (rfl : Nat.ble _ 1024 = true))) ?_; omega) | (unfold inI64; omega) | (constructor <;> omega) | (simp only [inI64, List.length_cons, List.length_append, List.length_nil, List.length_set] at *; omega) | decide | (unfold inI64; decide)); conv => whnf)
      | omega | decide | assumption)
    refine .ret _ ?_
    conv => whnf
    exact ⟨_, ⟨⟨H', _, hB', hl', rfl⟩, rfl⟩, Res.le_refl _, Res.le_refl _, Res.le_refl _, trivial⟩
-- changed, of CloseOf
set_option maxHeartbeats 1000000 in
theorem z266c (k : Nat) (hk : k ≤ 100) (h : Hir) (hh : hiB k h) (ri : Rdg) (h2 : rgB ri) :
    FSpec Tryz.prog 201 [.agg ((hiF h).map .d), .fn 203 [.ptr 1000002 0]] [(1000002, rcell ri)]
      (fun y o => (∃ (h' : Hir) (e : Int), hiB k h' ∧ (e = 0 → 1 ≤ h'.legs.length) ∧ y = .tup [.agg ((hiF h').map .d), .d (.int .i64 e)]) ∧ o = [(1000002, rcell ri)]) := by
  have hl := hh.2.2.1
  refine spec_of hT (C := []) Tryz.func201 rfl Tryz.call201 rfl rfl rfl ?_
  conv => whnf
  repeat' (first
    | (refine CallX.of (z313 h (by omega)) [] rfl ⟨SV.le_refl _, trivial⟩ trivial rfl rfl ?_; rintro x rout ⟨⟨b, hb1, rfl⟩, rfl⟩; refine ⟨rfl, ?_⟩; conv => whnf)
    | (refine br_intro (fun hb => ?_) (fun hb => ?_) <;> (try simp only [decide_eq_true_eq, decide_eq_false_iff_not, Bool.not_eq_true', Bool.not_eq_false', Bool.and_eq_true, Bool.or_eq_true, beq_iff_eq, not_and, Int.not_le, Int.not_lt, Int.toNat_natCast, beq_eq_false_iff_ne, ne_eq, eq_self, not_true_eq_false, not_false_eq_true] at hb) <;> (conv => whnf))
    | omega
    | (refine And.intro ?_ ?_; ((try dsimp only); first | omega | (refine ⟨by omega, by omega, Int.le_trans (Int.mul_le_mul_of_nonneg_right (Int.ofNat_le.2 (Nat.le_of_ble_eq_true (rfl : Nat.ble _ 1024 = true))) (by omega)) (by omega), by omega⟩) | (refine Nat.le_trans (Nat.mul_le_mul_left _ (Nat.le_of_ble_eq_true (rfl : Nat.ble _ 1024 = true))) ?_; omega) | (unfold inI64; omega) | (constructor <;> omega) | (simp only [inI64, List.length_cons, List.length_append, List.length_nil, List.length_set] at *; omega) | decide | (unfold inI64; decide)); conv => whnf)
    | omega | decide | assumption)
  · refine .weak _ ?_
    conv => whnf
    exact ⟨.tup [.agg ((hiF hi0).map .d), .d (.int .i64 11)], _, SV.le_tup ⟨SV.le_agg ⟨SV.le_refl _, SV.le_refl _, SV.le_refl _, SV.le_refl _, SV.le_nilS, trivial⟩, SV.le_refl _, trivial⟩, ⟨⟨hi0, 11, hiB_0, fun q => absurd q (by decide), rfl⟩, rfl⟩, Res.le_refl _, trivial⟩
  · have hn : 1 ≤ h.legs.length := hb1 (by simpa using hb)
    obtain ⟨H, hH⟩ : ∃ H : Hir, H = ⟨h.key, h.drv, h.frm, h.to, setIn h.legs ri⟩ := ⟨_, rfl⟩
    have hB : hiB k H := by
      subst hH
      exact ⟨hh.1, hh.2.1, by simp [setIn_len]; omega, setIn_B hh.2.2.2 h2⟩
    have hHl : 1 ≤ H.legs.length := by subst hH; simp [setIn_len]; omega
    have h265 := z265 H (hiB_K hB (by omega))
    generalize hirE H = E at h265
    have hres : ∃ (h' : Hir), hiB k h' ∧ (E = 0 → 1 ≤ h'.legs.length) ∧ (if E = 0 then H else hi0) = h' := by
      by_cases q : E = 0
      · rw [if_pos q]; exact ⟨H, hB, fun _ => hHl, rfl⟩
      · rw [if_neg q]; exact ⟨hi0, hiB_0, fun p => absurd p q, rfl⟩
    obtain ⟨H', hB', hl', he'⟩ := hres
    rw [he'] at h265
    subst hH
    refine CallX.of (z216 h.legs hn (by omega)) [(7, 20)] rfl ⟨SV.le_refl _, trivial⟩ trivial rfl rfl ?_
    rintro x rout ⟨rfl, rfl⟩
    refine ⟨rfl, ?_⟩
    conv => whnf
    repeat' (first
      | (refine CallX.of (z268 h hn (by omega) ri) [(1000001, 2), (1000002, 1000002), (1000005, 20)] rfl ⟨SV.le_refl _, SV.le_refl _, trivial⟩ ⟨Res.le_refl _, Res.le_refl _, Res.le_refl _, trivial⟩ rfl rfl ?_; rintro x rout ⟨rfl, rfl⟩; refine ⟨rfl, ?_⟩; conv => whnf)
      | (refine CallX.freeze _ _ _ _ 20 162 9 _ _ rfl rfl ?_; refine CallX.pure h265 ⟨SV.le_agg ⟨SV.le_refl _, SV.le_refl _, SV.le_refl _, SV.le_refl _, SV.le_refl _, trivial⟩, trivial⟩ rfl ?_; conv => whnf)
      | (refine br_intro (fun hb => ?_) (fun hb => ?_) <;> (try simp only [decide_eq_true_eq, decide_eq_false_iff_not, Bool.not_eq_true', Bool.not_eq_false', Bool.and_eq_true, Bool.or_eq_true, beq_iff_eq, not_and, Int.not_le, Int.not_lt, Int.toNat_natCast, beq_eq_false_iff_ne, ne_eq, eq_self, not_true_eq_false, not_false_eq_true] at hb) <;> (conv => whnf))
      | omega
      | (refine And.intro ?_ ?_; ((try dsimp only); first | omega | (refine ⟨by omega, by omega, Int.le_trans (Int.mul_le_mul_of_nonneg_right (Int.ofNat_le.2 (Nat.le_of_ble_eq_true (rfl : Nat.ble _ 1024 = true))) (by omega)) (by omega), by omega⟩) | (refine Nat.le_trans (Nat.mul_le_mul_left _ (Nat.le_of_ble_eq_true (rfl : Nat.ble _ 1024 = true))) ?_; omega) | (unfold inI64; omega) | (constructor <;> omega) | (simp only [inI64, List.length_cons, List.length_append, List.length_nil, List.length_set] at *; omega) | decide | (unfold inI64; decide)); conv => whnf)
      | omega | decide | assumption)
    refine .ret _ ?_
    conv => whnf
    exact ⟨_, ⟨⟨H', _, hB', hl', rfl⟩, rfl⟩, Res.le_refl _, trivial⟩
-- ExchangeOf
theorem z214 (k : Nat) (hk : k ≤ 100) (h : Hir) (hh : hiB k h) (ri ro : Rdg) (v : List UInt8) (h2 : rgB ri) (h3 : rgB ro) (h4 : v.length ≤ 8) :
    FSpec Tryz.prog 146 [.agg ((hiF h).map .d), .agg ((rgF ri).map .d), .d (.str v), .agg ((rgF ro).map .d)] []
      (fun y o => (∃ (h' : Hir) (e : Int), hiB (k + 1) h' ∧ (e = 0 → 1 ≤ h'.legs.length) ∧ y = .tup [.agg ((hiF h').map .d), .d (.int .i64 e)]) ∧ o = []) := by
  refine spec_of hT (C := []) Tryz.func146 rfl Tryz.call146 rfl rfl rfl ?_
  conv => whnf
  repeat' (first
    | (refine CallX.of (z266x k hk h hh ri ro v h2 h3 h4) [(1000002, 5), (1000003, 6), (1000004, 7)] rfl ⟨SV.le_refl _, SV.le_refl _, trivial⟩ ⟨Res.le_refl _, Res.le_refl _, Res.le_refl _, trivial⟩ rfl rfl ?_; rintro x rout ⟨⟨h5, e5, hb5, hl5, rfl⟩, rfl⟩; refine ⟨rfl, ?_⟩; conv => whnf)
    | (refine br_intro (fun hb => ?_) (fun hb => ?_) <;> (try simp only [decide_eq_true_eq, decide_eq_false_iff_not, Bool.not_eq_true', Bool.not_eq_false', Bool.and_eq_true, Bool.or_eq_true, beq_iff_eq, not_and, Int.not_le, Int.not_lt, Int.toNat_natCast, beq_eq_false_iff_ne, ne_eq, eq_self, not_true_eq_false, not_false_eq_true] at hb) <;> (conv => whnf))
    | omega
    | (refine And.intro ?_ ?_; ((try dsimp only); first | omega | (refine ⟨by omega, by omega, Int.le_trans (Int.mul_le_mul_of_nonneg_right (Int.ofNat_le.2 (Nat.le_of_ble_eq_true (rfl : Nat.ble _ 1024 = true))) (by omega)) (by omega), by omega⟩) | (refine Nat.le_trans (Nat.mul_le_mul_left _ (Nat.le_of_ble_eq_true (rfl : Nat.ble _ 1024 = true))) ?_; omega) | (unfold inI64; omega) | (constructor <;> omega) | (simp only [inI64, List.length_cons, List.length_append, List.length_nil, List.length_set] at *; omega) | decide | (unfold inI64; decide)); conv => whnf)
    | omega | decide | assumption)
  refine .ret _ ?_
  conv => whnf
  exact ⟨[], ⟨⟨h5, e5, hb5, hl5, rfl⟩, rfl⟩, trivial⟩
-- CloseOf
theorem z215 (k : Nat) (hk : k ≤ 100) (h : Hir) (hh : hiB k h) (ri : Rdg) (h2 : rgB ri) :
    FSpec Tryz.prog 147 [.agg ((hiF h).map .d), .agg ((rgF ri).map .d)] []
      (fun y o => (∃ (h' : Hir) (e : Int), hiB k h' ∧ (e = 0 → 1 ≤ h'.legs.length) ∧ y = .tup [.agg ((hiF h').map .d), .d (.int .i64 e)]) ∧ o = []) := by
  refine spec_of hT (C := []) Tryz.func147 rfl Tryz.call147 rfl rfl rfl ?_
  conv => whnf
  repeat' (first
    | (refine CallX.of (z266c k hk h hh ri h2) [(1000002, 3)] rfl ⟨SV.le_refl _, SV.le_refl _, trivial⟩ ⟨Res.le_refl _, trivial⟩ rfl rfl ?_; rintro x rout ⟨⟨h5, e5, hb5, hl5, rfl⟩, rfl⟩; refine ⟨rfl, ?_⟩; conv => whnf)
    | (refine br_intro (fun hb => ?_) (fun hb => ?_) <;> (try simp only [decide_eq_true_eq, decide_eq_false_iff_not, Bool.not_eq_true', Bool.not_eq_false', Bool.and_eq_true, Bool.or_eq_true, beq_iff_eq, not_and, Int.not_le, Int.not_lt, Int.toNat_natCast, beq_eq_false_iff_ne, ne_eq, eq_self, not_true_eq_false, not_false_eq_true] at hb) <;> (conv => whnf))
    | omega
    | (refine And.intro ?_ ?_; ((try dsimp only); first | omega | (refine ⟨by omega, by omega, Int.le_trans (Int.mul_le_mul_of_nonneg_right (Int.ofNat_le.2 (Nat.le_of_ble_eq_true (rfl : Nat.ble _ 1024 = true))) (by omega)) (by omega), by omega⟩) | (refine Nat.le_trans (Nat.mul_le_mul_left _ (Nat.le_of_ble_eq_true (rfl : Nat.ble _ 1024 = true))) ?_; omega) | (unfold inI64; omega) | (constructor <;> omega) | (simp only [inI64, List.length_cons, List.length_append, List.length_nil, List.length_set] at *; omega) | decide | (unfold inI64; decide)); conv => whnf)
    | omega | decide | assumption)
  refine .ret _ ?_
  conv => whnf
  exact ⟨[], ⟨⟨h5, e5, hb5, hl5, rfl⟩, rfl⟩, trivial⟩
end Go.Proofs.YtcjfniddeibbhaaGreatDoor
namespace Go.Proofs.YtcjfniddeibbhaaGreatDoor
open Go Go.Eng
end Go.Proofs.YtcjfniddeibbhaaGreatDoor
set_option maxRecDepth 20000
namespace Go.Proofs.YtcjfniddeibbhaaGreatDoor
open Go Go.Eng
structure Slt where
  day : Int
  many : Int
structure Wnt where
  v : List UInt8
  fr : Int
  to : Int
def wn0 : Wnt := ⟨[], 0, 0⟩
structure Plc where
  v : List UInt8
  day : Int
def pl0 : Plc := ⟨[], 0⟩
structure Bsy where
  v : List UInt8
  fr : Int
  to : Int
  cents : Int
def namesB (w : List Wnt) (l : List Plc) : Prop := w.length = l.length ∧ ∀ i, i < w.length → (w.getD i wn0).v = (l.getD i pl0).v
instance (w : List Wnt) (l : List Plc) : Decidable (namesB w l) := inferInstanceAs (Decidable (_ ∧ _))
end Go.Proofs.YtcjfniddeibbhaaGreatDoor
set_option maxRecDepth 20000
namespace Go.Proofs.YtcjfniddeibbhaaGreatDoor
open Go Go.Eng
-- shift.span
-- shift.checkSlots
-- SlotsFault
-- shift.checkWanted
-- WantedFault
-- shift.checkPlacedList
-- PlacedForm
-- shift.checkBusy
-- BusyFault
end Go.Proofs.YtcjfniddeibbhaaGreatDoor
set_option maxRecDepth 20000
namespace Go.Proofs.YtcjfniddeibbhaaGreatDoor
open Go Go.Eng
-- slices.IndexFunc of slots
-- slices.ContainsFunc of slots
-- shift.slotAt
end Go.Proofs.YtcjfniddeibbhaaGreatDoor
set_option maxRecDepth 20000
namespace Go.Proofs.YtcjfniddeibbhaaGreatDoor
open Go Go.Eng
-- PlacedFault, all else right
-- shift.CheckPlaced
end Go.Proofs.YtcjfniddeibbhaaGreatDoor
set_option maxRecDepth 20000
namespace Go.Proofs.YtcjfniddeibbhaaGreatDoor
open Go Go.Eng
-- LostOf
end Go.Proofs.YtcjfniddeibbhaaGreatDoor
set_option maxRecDepth 20000
namespace Go.Proofs.YtcjfniddeibbhaaGreatDoor
open Go Go.Eng
-- placed
end Go.Proofs.YtcjfniddeibbhaaGreatDoor
set_option maxRecDepth 20000
namespace Go.Proofs.YtcjfniddeibbhaaGreatDoor
open Go Go.Eng
structure Ned where
  st : List UInt8
  many : Int
structure Roa where
  a : List UInt8
  b : List UInt8
  car : Int
  ride : Int
def rd0 : Roa := ⟨[], [], 0, 0⟩
structure Mov where
  a : List UInt8
  b : List UInt8
  many : Int
def mv0 : Mov := ⟨[], [], 0⟩
end Go.Proofs.YtcjfniddeibbhaaGreatDoor
set_option maxRecDepth 20000
namespace Go.Proofs.YtcjfniddeibbhaaGreatDoor
open Go Go.Eng
structure Arc where
  fr : Int
  to : Int
  car : Int
  flow : Int
end Go.Proofs.YtcjfniddeibbhaaGreatDoor
set_option maxRecDepth 20000
namespace Go.Proofs.YtcjfniddeibbhaaGreatDoor
open Go Go.Eng
end Go.Proofs.YtcjfniddeibbhaaGreatDoor
set_option maxRecDepth 20000
namespace Go.Proofs.YtcjfniddeibbhaaGreatDoor
open Go Go.Eng
theorem mov_eq {a b : Mov} : a = b ↔ a.a = b.a ∧ a.b = b.b ∧ a.many = b.many := by cases a; cases b; simp
instance : DecidableEq Mov := fun _ _ => decidable_of_iff _ mov_eq.symm
-- slices.Equal of moves
-- shifted
end Go.Proofs.YtcjfniddeibbhaaGreatDoor
set_option maxRecDepth 20000
namespace Go.Proofs.YtcjfniddeibbhaaGreatDoor
open Go Go.Eng
structure Pnl where
  key : List UInt8
  w : Int
  h : Int
  pr : Int
structure Mrk where
  pan : List UInt8
  kind : Int
  x : Int
  y : Int
  size : Int
structure Rul where
  near : Int
  slack : Int
  join : Int
  part : Int
theorem less_trans : ∀ {a b c : List UInt8}, Op.bytesLess a b = true → Op.bytesLess b c = true → Op.bytesLess a c = true := by
  intro a
  induction a with
  | nil => intro b c h1 h2; cases b <;> cases c <;> simp_all [Op.bytesLess]
  | cons x a ih =>
    intro b c h1 h2
    cases b with
    | nil => simp [Op.bytesLess] at h1
    | cons y b =>
      cases c with
      | nil => simp [Op.bytesLess] at h2
      | cons z c =>
        simp only [Op.bytesLess] at h1 h2 ⊢
        grind [UInt8.lt_trans]
theorem less_irr : ∀ (a : List UInt8), Op.bytesLess a a = false := by
  intro a
  induction a with
  | nil => rfl
  | cons x a ih => simp [Op.bytesLess, ih]
end Go.Proofs.YtcjfniddeibbhaaGreatDoor
set_option maxRecDepth 20000
namespace Go.Proofs.YtcjfniddeibbhaaGreatDoor
open Go Go.Eng
def onRd (l : List Roa) (a b : List UInt8) (i : Nat) : Bool := (l.getD i rd0).a == a && (l.getD i rd0).b == b
/-- The number of a road, or -1. -/
def roadX (l : List Roa) (a b : List UInt8) : Int := ixF (onRd l a b) l.length
theorem ixF_pos {p : Nat → Bool} {n k : Nat} (hk : k < n) (h : p k = true) : 0 ≤ ixF p n := by
  have hb := ixF_bd (p := p) (n := n)
  rcases Int.lt_or_le (ixF p n) 0 with q | q
  · exfalso
    have hn : ∀ m, ixF p m < 0 → ∀ j, j < m → p j = false := by
      intro m
      induction m with
      | zero => intro _ j hj; omega
      | succ m ih =>
        intro hm j hj
        rw [ixF] at hm
        split at hm
        · rename_i hz
          by_cases hjm : j = m
          · subst hjm
            split at hm
            · omega
            · rename_i hf; simpa using hf
          · exact ih (by omega) j (by omega)
        · rename_i hz; have := (ixF_bd (p := p) (n := m)).1; omega
    rw [hn n q k hk] at h
    cases h
  · exact q
def roadO (l : List Roa) (a b : List UInt8) : Option Roa := if 0 ≤ roadX l a b then some (l.getD (roadX l a b).toNat rd0) else none
def rideO (l : List Roa) (a b : List UInt8) : Option Int := if a = b then some 0 else (roadO l a b).map (·.ride)
def makeO (l : List Roa) (a : List UInt8) (m : Mov) : Option Int := (rideO l a m.a).bind fun n => (roadO l m.a m.b).map fun r => n + r.car
abbrev RPt := Option (List UInt8 × Int)
def stepR (l : List Roa) (m : List Mov) (st : RPt) (k : Int) : RPt := st.bind fun p => (makeO l p.1 (m.getD k.toNat mv0)).map fun n => ((m.getD k.toNat mv0).b, p.2 + n)
def partR (l : List Roa) (start : List UInt8) (m : List Mov) (o : List Int) : RPt := o.foldl (stepR l m) (some (start, 0))
def roundO (l : List Roa) (start : List UInt8) (m : List Mov) (o : List Int) : Option Int := (partR l start m o).bind fun p => (rideO l p.1 start).map fun n => p.2 + n
abbrev RSt := List Int × Int
/-- All orders that begin with o: the state is the best one and its cost, or -1. -/
def rs (l : List Roa) (start : List UInt8) (m : List Mov) : Nat → List Int → RSt → RSt
  | 0, o, st => match roundO l start m o with
    | some n => if 0 ≤ st.2 ∧ st.2 ≤ n then st else (o, n)
    | none => st
  | d + 1, o, st => (List.range m.length).foldl (fun (st : RSt) (k : Nat) => if o.contains (k : Int) then st else rs l start m d (o ++ [(k : Int)]) st) st
end Go.Proofs.YtcjfniddeibbhaaGreatDoor
set_option maxRecDepth 20000
namespace Go.Proofs.YtcjfniddeibbhaaGreatDoor
open Go Go.Eng
abbrev Win := Int × Int
def vwF : Win → List DV := fun p => [.int .i64 p.1, .int .i64 p.2]
def vw0 : Win := (0, 0)
abbrev wins (l : List Win) : DV := seqD 2 vwF vw0 l
abbrev vwB (l : List Win) : Res := seqB 65 2 vwF vw0 l
abbrev vwC (x : Win) : Res := .cells 65 [.d (.int .i64 x.1), .d (.int .i64 x.2)]
def hitP (x y : Win) : Bool := decide (x.1 < y.2) && decide (y.1 < x.2)
theorem hitP_comm (x y : Win) : hitP x y = hitP y x := by unfold hitP; rw [Bool.and_comm]
def wlen (l : List Win) : Int := (l.map fun x => x.2 - x.1).sum
theorem wlen_app (l m : List Win) : wlen (l ++ m) = wlen l + wlen m := by unfold wlen; rw [List.map_append, List.sum_append]
theorem wlen_cons (x : Win) (l : List Win) : wlen (x :: l) = (x.2 - x.1) + wlen l := by simp [wlen]
theorem wlen_filter (p : Win → Bool) (l : List Win) : wlen l = wlen (l.filter p) + wlen (l.filter fun x => !p x) := by
  induction l with
  | nil => rfl
  | cons x l ih =>
    cases q : p x
    · rw [List.filter_cons_of_neg (by simp [q]), List.filter_cons_of_pos (by simp [q]), wlen_cons, wlen_cons]; omega
    · rw [List.filter_cons_of_pos (by simp [q]), List.filter_cons_of_neg (by simp [q]), wlen_cons, wlen_cons]; omega
def disjW (l : List Win) : Prop := l.Pairwise (fun x y => hitP x y = false)
def inW (a b : Int) (l : List Win) : Prop := ∀ x ∈ l, a ≤ x.1 ∧ x.1 < x.2 ∧ x.2 ≤ b
/-- Windows that do not meet are not longer than what they lie in. -/
theorem disj_sum : ∀ (n : Nat) (l : List Win) (a b : Int), l.length ≤ n → disjW l → inW a b l → a ≤ b → wlen l ≤ b - a := by
  intro n
  induction n with
  | zero =>
    intro l a b h _ _ hab
    obtain rfl := List.eq_nil_of_length_eq_zero (by omega : l.length = 0)
    simp [wlen]; omega
  | succ n ih =>
    intro l a b h hd hi hab
    cases l with
    | nil => simp [wlen]; omega
    | cons x r =>
      have hx := hi x (by simp)
      unfold disjW at hd
      rw [List.pairwise_cons] at hd
      have hr : r.length ≤ n := by simp at h; omega
      have f1 := List.length_filter_le (fun y : Win => decide (y.2 ≤ x.1)) r
      have f2 := List.length_filter_le (fun y : Win => !decide (y.2 ≤ x.1)) r
      have k1 := ih (r.filter fun y => decide (y.2 ≤ x.1)) a x.1 (by omega) (hd.2.sublist List.filter_sublist) (fun y hy => by
        rw [List.mem_filter] at hy
        have := hi y (by simp [hy.1])
        have h2 : y.2 ≤ x.1 := by simpa using hy.2
        omega) (by omega)
      have k2 := ih (r.filter fun y => !decide (y.2 ≤ x.1)) x.2 b (by omega) (hd.2.sublist List.filter_sublist) (fun y hy => by
        rw [List.mem_filter] at hy
        have := hi y (by simp [hy.1])
        have h2 : x.1 < y.2 := by simpa using hy.2
        have h3 := hd.1 y hy.1
        unfold hitP at h3
        rw [decide_eq_true h2, Bool.true_and, decide_eq_false_iff_not] at h3
        omega) (by omega)
      have := wlen_filter (fun y => decide (y.2 ≤ x.1)) r
      rw [wlen_cons]
      omega
theorem disj_snoc {l : List Win} {x : Win} (h : disjW l) (hx : ∀ y ∈ l, hitP x y = false) : disjW (l ++ [x]) := by
  unfold disjW at *
  rw [List.pairwise_append]
  exact ⟨h, by simp, fun y hy z hz => by simp at hz; subst hz; rw [hitP_comm]; exact hx y hy⟩
def hitW (l : List Win) (x : Win) : Bool := decide (0 ≤ ixF (fun i => hitP x (l.getD i vw0)) l.length)
theorem hitW_no {l : List Win} {x : Win} (h : hitW l x = false) : ∀ y ∈ l, hitP x y = false := fun y hy => by
  obtain ⟨i, hi, rfl⟩ := mem_getD (d := vw0) hy
  cases q : hitP x (l.getD i vw0) with
  | false => rfl
  | true =>
    have := ixF_pos (p := fun i => hitP x (l.getD i vw0)) hi q
    unfold hitW at h
    rw [decide_eq_true this] at h
    cases h
-- Blame's look
theorem z127 (x y : Win) : FSpec Tryz.prog 97 [.agg ((vwF y).map .d), .ptr 1000002 0] [(1000002, vwC x)] (fun z r => z = .d (.bool (hitP x y)) ∧ r = [(1000002, vwC x)]) := by
  refine spec_of hT (C := []) Tryz.func97 rfl Tryz.call97 rfl rfl rfl ?_
  conv => whnf
  repeat' (first
    | (refine br_intro (fun hb => ?_) (fun hb => ?_) <;> (try simp only [decide_eq_true_eq, decide_eq_false_iff_not, Bool.not_eq_true', Bool.not_eq_false', Bool.and_eq_true, Bool.or_eq_true, beq_iff_eq, not_and, Int.not_le, Int.not_lt, Int.toNat_natCast, beq_eq_false_iff_ne, ne_eq, eq_self, not_true_eq_false, not_false_eq_true] at hb) <;> (conv => whnf))
    | omega
    | (refine And.intro ?_ ?_; ((try dsimp only); first | omega | (refine ⟨by omega, by omega, Int.le_trans (Int.mul_le_mul_of_nonneg_right (Int.ofNat_le.2 (Nat.le_of_ble_eq_true (rfl : Nat.ble _ 1024 = true))) (by omega)) (by omega), by omega⟩) | (refine Nat.le_trans (Nat.mul_le_mul_left _ (Nat.le_of_ble_eq_true (rfl : Nat.ble _ 1024 = true))) ?_; omega) | (unfold inI64; omega) | (constructor <;> omega) | (simp only [inI64, List.length_cons, List.length_append, List.length_nil, List.length_set] at *; omega) | decide | (unfold inI64; decide)); conv => whnf)
    | omega | decide | assumption)
  all_goals
    refine .ret _ ?_
    conv => whnf
    refine ⟨_, ⟨?_, rfl⟩, Res.le_refl _, trivial⟩
    (conv => lhs; whnf)
    congr 2
    unfold hitP; grind
-- slices.IndexFunc of windows
theorem z211 (x : Win) (l : List Win) (hl : l.length ≤ 2^40) : FSpec Tryz.prog 165 [.buf 1000001, .fn 97 [.ptr 1000002 0]] [(1000001, vwB l), (1000002, vwC x)] (fun y r => y = .d (.int .i64 (ixF (fun i => hitP x (l.getD i vw0)) l.length)) ∧ r = [(1000001, vwB l), (1000002, vwC x)]) := by
  refine spec_of hT (C := []) Tryz.func165 rfl Tryz.call165 rfl rfl rfl ?_
  conv => whnf
  refine LoopX.rule hT (C := []) (ι := Nat) (fun i => i ≤ l.length ∧ ∀ j, j < i → hitP x (l.getD j vw0) = false) (fun i => mkSt [(0, .buf 1000001), (1, .fn 97 [.ptr 1000002 0]), (7, .d (.int .i64 l.length)), (8, .d (.int .i64 i))] [(1000001, vwB l), (1000002, vwC x)]) (fun i => l.length - i) 0 ⟨by omega, by omega⟩ (by (refine Entails.mk' [(1000001, 1000001), (1000002, 1000002)] rfl rfl ?_ ?_ <;> repeat' (first | exact True.intro | exact SV.le_refl _ | exact Res.le_refl _ | exact SV.le_int (by omega) | exact SV.le_any _ | refine And.intro ?_ ?_)); done) ?_
  rintro i ⟨p1, p2⟩
  have e1 : (i : Int).toNat = i := Int.toNat_natCast i
  conv => whnf
  repeat' (first
    | (refine CallX.of (z127 x (l.getD (i : Int).toNat vw0)) [(1000002, 1000002)] rfl ⟨SV.le_refl _, SV.le_refl _, trivial⟩ ⟨Res.le_refl _, trivial⟩ rfl rfl ?_; rintro y rout ⟨rfl, rfl⟩; refine ⟨rfl, ?_⟩; conv => whnf)
    | (refine br_intro (fun hb => ?_) (fun hb => ?_) <;> (try simp only [decide_eq_true_eq, decide_eq_false_iff_not, Bool.not_eq_true', Bool.not_eq_false', Bool.and_eq_true, Bool.or_eq_true, beq_iff_eq, not_and, Int.not_le, Int.not_lt, Int.toNat_natCast, beq_eq_false_iff_ne, ne_eq, eq_self, not_true_eq_false, not_false_eq_true] at hb) <;> (conv => whnf))
    | omega
    | (refine And.intro ?_ ?_; ((try dsimp only); first | omega | (refine ⟨by omega, by omega, Int.le_trans (Int.mul_le_mul_of_nonneg_right (Int.ofNat_le.2 (Nat.le_of_ble_eq_true (rfl : Nat.ble _ 1024 = true))) (by omega)) (by omega), by omega⟩) | (refine Nat.le_trans (Nat.mul_le_mul_left _ (Nat.le_of_ble_eq_true (rfl : Nat.ble _ 1024 = true))) ?_; omega) | (unfold inI64; omega) | (constructor <;> omega) | (simp only [inI64, List.length_cons, List.length_append, List.length_nil, List.length_set] at *; omega) | decide | (unfold inI64; decide)); conv => whnf)
    | omega | decide | assumption)
  · refine .ret _ ?_
    conv => whnf
    refine ⟨_, ⟨?_, rfl⟩, Res.le_refl _, Res.le_refl _, trivial⟩
    (conv => lhs; whnf)
    congr 2
    exact (ixF_hit (by omega) p2 (by simpa using hb)).symm
  · exact ⟨i + 1, ⟨by omega, all_step p2 (by simpa using hb)⟩, by omega, (by (refine Entails.mk' [(1000001, 1000001), (1000002, 1000002)] rfl rfl ?_ ?_ <;> repeat' (first | exact True.intro | exact SV.le_refl _ | exact Res.le_refl _ | exact SV.le_int (by omega) | exact SV.le_any _ | refine And.intro ?_ ?_)); done)⟩
  · refine .ret _ ?_
    conv => whnf
    refine ⟨_, ⟨?_, rfl⟩, Res.le_refl _, Res.le_refl _, trivial⟩
    (conv => lhs; whnf)
    congr 2
    have : i = l.length := by omega
    subst this
    exact (ixF_none p2).symm
-- slices.ContainsFunc of windows
theorem z126 (x : Win) (l : List Win) (hl : l.length ≤ 2^40) : FSpec Tryz.prog 96 [.buf 1000001, .fn 97 [.ptr 1000002 0]] [(1000001, vwB l), (1000002, vwC x)] (fun y r => y = .d (.bool (hitW l x)) ∧ r = [(1000001, vwB l), (1000002, vwC x)]) := by
  refine spec_of hT (C := []) Tryz.func96 rfl Tryz.call96 rfl rfl rfl ?_
  conv => whnf
  repeat' (first
    | (refine CallX.of (z211 x l hl) [(1000001, 1000001), (1000002, 1000002)] rfl ⟨SV.le_refl _, SV.le_refl _, trivial⟩ ⟨Res.le_refl _, Res.le_refl _, trivial⟩ rfl rfl ?_; rintro y rout ⟨rfl, rfl⟩; refine ⟨rfl, ?_⟩; conv => whnf)
    | (refine br_intro (fun hb => ?_) (fun hb => ?_) <;> (try simp only [decide_eq_true_eq, decide_eq_false_iff_not, Bool.not_eq_true', Bool.not_eq_false', Bool.and_eq_true, Bool.or_eq_true, beq_iff_eq, not_and, Int.not_le, Int.not_lt, Int.toNat_natCast, beq_eq_false_iff_ne, ne_eq, eq_self, not_true_eq_false, not_false_eq_true] at hb) <;> (conv => whnf))
    | omega
    | (refine And.intro ?_ ?_; ((try dsimp only); first | omega | (refine ⟨by omega, by omega, Int.le_trans (Int.mul_le_mul_of_nonneg_right (Int.ofNat_le.2 (Nat.le_of_ble_eq_true (rfl : Nat.ble _ 1024 = true))) (by omega)) (by omega), by omega⟩) | (refine Nat.le_trans (Nat.mul_le_mul_left _ (Nat.le_of_ble_eq_true (rfl : Nat.ble _ 1024 = true))) ?_; omega) | (unfold inI64; omega) | (constructor <;> omega) | (simp only [inI64, List.length_cons, List.length_append, List.length_nil, List.length_set] at *; omega) | decide | (unfold inI64; decide)); conv => whnf)
    | omega | decide | assumption)
  refine .ret _ ?_
  conv => whnf
  exact ⟨_, ⟨rfl, rfl⟩, Res.le_refl _, Res.le_refl _, trivial⟩
def hadX (a b : Int) (x : Leg) : Win := (max x.out.tm a, min (if x.inn.tm = -1 then 5761440 else x.inn.tm) b)
def hadN (v : List UInt8) (a b : Int) (l : List Leg) : Nat → List Win
  | 0 => []
  | k + 1 => hadN v a b l k ++ (if (l.getD k lg0).veh = v ∧ (hadX a b (l.getD k lg0)).1 < (hadX a b (l.getD k lg0)).2 then [hadX a b (l.getD k lg0)] else [])
theorem hadN_ok (v : List UInt8) (a b : Int) (l : List Leg) : ∀ k, (hadN v a b l k).length ≤ k ∧ inW a b (hadN v a b l k) := by
  intro k
  induction k with
  | zero => exact ⟨Nat.le_refl _, fun x hx => by cases hx⟩
  | succ k ih =>
    rw [hadN]
    split
    · rename_i h
      refine ⟨by simp; omega, fun x hx => ?_⟩
      rcases List.mem_append.1 hx with q | q
      · exact ih.2 x q
      · simp at q; subst q
        refine ⟨?_, h.2, ?_⟩
        · show a ≤ max _ a; omega
        · show min _ b ≤ b; omega
    · rw [List.append_nil]; exact ⟨by omega, ih.2⟩
-- mark.had
theorem z125 (h : Hir) (v : List UInt8) (a b : Int) (hl : h.legs.length ≤ 1000) : FSpec Tryz.prog 95 [.agg ((hiF h).map .d), .d (.str v), .agg [.d (.int .i64 a), .d (.int .i64 b)]] [] (fun y r => y = .d (wins (hadN v a b h.legs h.legs.length)) ∧ r = []) := by
  refine spec_of hT (C := []) Tryz.func95 rfl Tryz.call95 rfl rfl rfl ?_
  conv => whnf
  repeat' (first
    | (refine br_intro (fun hb => ?_) (fun hb => ?_) <;> (try simp only [decide_eq_true_eq, decide_eq_false_iff_not, Bool.not_eq_true', Bool.not_eq_false', Bool.and_eq_true, Bool.or_eq_true, beq_iff_eq, not_and, Int.not_le, Int.not_lt, Int.toNat_natCast, beq_eq_false_iff_ne, ne_eq, eq_self, not_true_eq_false, not_false_eq_true] at hb) <;> (conv => whnf))
    | omega
    | (refine And.intro ?_ ?_; ((try dsimp only); first | omega | (refine ⟨by omega, by omega, Int.le_trans (Int.mul_le_mul_of_nonneg_right (Int.ofNat_le.2 (Nat.le_of_ble_eq_true (rfl : Nat.ble _ 1024 = true))) (by omega)) (by omega), by omega⟩) | (refine Nat.le_trans (Nat.mul_le_mul_left _ (Nat.le_of_ble_eq_true (rfl : Nat.ble _ 1024 = true))) ?_; omega) | (unfold inI64; omega) | (constructor <;> omega) | (simp only [inI64, List.length_cons, List.length_append, List.length_nil, List.length_set] at *; omega) | decide | (unfold inI64; decide)); conv => whnf)
    | omega | decide | assumption)
  refine LoopX.rule hT (C := []) (ι := Nat) (fun i => i ≤ h.legs.length) (fun i => mkSt [(1, .d (.str v)), (5, .ptr 5 0), (7, .buf 7), (13, .d (legs h.legs)), (14, .d (.int .i64 h.legs.length)), (15, .d (.int .i64 i))] [(5, vwC (a, b)), (7, vwB (hadN v a b h.legs i))]) (fun i => h.legs.length - i) 0 (by omega) ?_ ?_
  · exact (Entails.nil 7 7 65 2 (rowF vwF vw0 []) rfl rfl (by decide)).trans (by (refine Entails.mk' [(5, 5), (7, 7)] rfl rfl ?_ ?_ <;> repeat' (first | exact True.intro | exact SV.le_refl _ | exact Res.le_refl _ | exact SV.le_int (by omega) | exact SV.le_any _ | refine And.intro ?_ ?_)); done)
  rintro i p1
  have e1 : (i : Int).toNat = i := Int.toNat_natCast i
  have hle := (hadN_ok v a b h.legs i).1
  conv => whnf
  repeat' (first
    | (refine br_intro (fun hb => ?_) (fun hb => ?_) <;> (try simp only [decide_eq_true_eq, decide_eq_false_iff_not, Bool.not_eq_true', Bool.not_eq_false', Bool.and_eq_true, Bool.or_eq_true, beq_iff_eq, not_and, Int.not_le, Int.not_lt, Int.toNat_natCast, beq_eq_false_iff_ne, ne_eq, eq_self, not_true_eq_false, not_false_eq_true] at hb) <;> (conv => whnf))
    | omega
    | (refine And.intro ?_ ?_; ((try dsimp only); first | omega | (refine ⟨by omega, by omega, Int.le_trans (Int.mul_le_mul_of_nonneg_right (Int.ofNat_le.2 (Nat.le_of_ble_eq_true (rfl : Nat.ble _ 1024 = true))) (by omega)) (by omega), by omega⟩) | (refine Nat.le_trans (Nat.mul_le_mul_left _ (Nat.le_of_ble_eq_true (rfl : Nat.ble _ 1024 = true))) ?_; omega) | (unfold inI64; omega) | (constructor <;> omega) | (simp only [inI64, List.length_cons, List.length_append, List.length_nil, List.length_set] at *; omega) | decide | (unfold inI64; decide)); conv => whnf)
    | omega | decide | assumption)
  all_goals first
    | (have hs : hadN v a b h.legs (i + 1) = hadN v a b h.legs i ++ [hadX a b (h.legs.getD (i : Int).toNat lg0)] := by
         rw [hadN, if_pos (by simp only [e1] at *; unfold hadX; grind), e1]
       refine ⟨i + 1, by omega, by omega, Entails.mk' [(5, 5), (7, 49)] rfl rfl ⟨SV.le_refl _, SV.le_refl _, SV.le_refl _, SV.le_refl _, SV.le_refl _, SV.le_refl _, trivial⟩ ⟨Res.le_refl _, ?_, trivial⟩⟩
       rw [hs]
       exact Res.le_snocF (by unfold hadX; simp only [e1]; (first | rw [if_pos (by assumption)] | rw [if_neg (by assumption)]) <;> rfl))
    | (have hs : hadN v a b h.legs (i + 1) = hadN v a b h.legs i := by
         rw [hadN, if_neg (by simp only [e1] at *; unfold hadX; grind), List.append_nil]
       refine ⟨i + 1, by omega, by omega, ?_⟩
       rw [hs]
       exact (by (refine Entails.mk' [(5, 5), (7, 7)] rfl rfl ?_ ?_ <;> repeat' (first | exact True.intro | exact SV.le_refl _ | exact Res.le_refl _ | exact SV.le_int (by omega) | exact SV.le_any _ | refine And.intro ?_ ?_)); done))
    | (refine .freeze _ 7 65 2 _ _ rfl (.weak _ ?_)
       conv => whnf
       have : i = h.legs.length := by omega
       subst this
       exact ⟨_, [], SV.le_refl _, ⟨rfl, rfl⟩, trivial⟩)
end Go.Proofs.YtcjfniddeibbhaaGreatDoor
set_option maxRecDepth 20000
namespace Go.Proofs.YtcjfniddeibbhaaGreatDoor
open Go Go.Eng
/- Sums over moments. -/
def smN (f : Int → Int) (a : Int) : Nat → Int
  | 0 => 0
  | n + 1 => smN f a n + f (a + n)
def sm (f : Int → Int) (a b : Int) : Int := smN f a (b - a).toNat
theorem smN_add (f : Int → Int) (a : Int) (n m : Nat) : smN f a (n + m) = smN f a n + smN f (a + n) m := by
  induction m with
  | zero => simp [smN]
  | succ m ih =>
    rw [← Nat.add_assoc, smN, smN, ih]
    have : a + ((n + m : Nat) : Int) = a + n + m := by omega
    rw [this]; omega
theorem sm_add {f : Int → Int} {a b c : Int} (h1 : a ≤ b) (h2 : b ≤ c) : sm f a c = sm f a b + sm f b c := by
  unfold sm
  have e1 : (c - a).toNat = (b - a).toNat + (c - b).toNat := by omega
  have e2 : a + ((b - a).toNat : Int) = b := by omega
  rw [e1, smN_add, e2]
theorem smN_congr {f g : Int → Int} {a : Int} : ∀ {n : Nat}, (∀ t, a ≤ t → t < a + n → f t = g t) → smN f a n = smN g a n := by
  intro n
  induction n with
  | zero => intro _; rfl
  | succ n ih =>
    intro h
    rw [smN, smN, ih (fun t h1 h2 => h t h1 (by omega)), h (a + n) (by omega) (by omega)]
theorem sm_congr {f g : Int → Int} {a b : Int} (h : ∀ t, a ≤ t → t < b → f t = g t) : sm f a b = sm g a b :=
  smN_congr fun t h1 h2 => h t h1 (by omega)
theorem smN_const (x a : Int) : ∀ n : Nat, smN (fun _ => x) a n = n * x := by
  intro n
  induction n with
  | zero => simp [smN]
  | succ n ih => rw [smN, ih, Int.natCast_succ, Int.add_mul]; omega
theorem sm_const {x a b : Int} (h : a ≤ b) : sm (fun _ => x) a b = (b - a) * x := by
  unfold sm
  rw [smN_const, Int.toNat_of_nonneg (by omega)]
theorem smN_plus {f g : Int → Int} {a : Int} : ∀ n : Nat, smN (fun t => f t + g t) a n = smN f a n + smN g a n := by
  intro n
  induction n with
  | zero => rfl
  | succ n ih => rw [smN, smN, smN, ih]; omega
theorem sm_plus {f g : Int → Int} {a b : Int} : sm (fun t => f t + g t) a b = sm f a b + sm g a b := smN_plus _
theorem smN_nonneg {f : Int → Int} {a : Int} : ∀ {n : Nat}, (∀ t, a ≤ t → t < a + n → 0 ≤ f t) → 0 ≤ smN f a n := by
  intro n
  induction n with
  | zero => intro _; exact Int.le_refl 0
  | succ n ih =>
    intro h
    have h1 := ih (fun t h1 h2 => h t h1 (by omega))
    have h2 := h (a + n) (by omega) (by omega)
    rw [smN]; omega
theorem sm_nonneg {f : Int → Int} {a b : Int} (h : ∀ t, a ≤ t → t < b → 0 ≤ f t) : 0 ≤ sm f a b := smN_nonneg fun t h1 h2 => h t h1 (by omega)
def b2i (p : Bool) : Int := if p = true then 1 else 0
theorem b2i_nonneg (p : Bool) : 0 ≤ b2i p := by unfold b2i; split <;> omega
/-- The moments of a window that lie in another one. -/
theorem sm_win {p q a b : Int} (hab : a ≤ b) : sm (fun t => b2i (decide (p ≤ t) && decide (t < q))) a b = max 0 (min q b - max p a) := by
  have h1 : a ≤ min (max p a) b := by omega
  have h2 : min (max p a) b ≤ max (min (max p a) b) (min q b) := by omega
  have h3 : max (min (max p a) b) (min q b) ≤ b := by omega
  rw [sm_add h1 (Int.le_trans h2 h3), sm_add h2 h3]
  have e1 : sm (fun t => b2i (decide (p ≤ t) && decide (t < q))) a (min (max p a) b) = 0 := by
    rw [sm_congr (g := fun _ => 0) (fun t u1 u2 => by unfold b2i; rw [decide_eq_false (by omega : ¬ p ≤ t)]; simp), sm_const h1]; simp
  have e2 : sm (fun t => b2i (decide (p ≤ t) && decide (t < q))) (min (max p a) b) (max (min (max p a) b) (min q b)) = max (min (max p a) b) (min q b) - min (max p a) b := by
    rw [sm_congr (g := fun _ => 1) (fun t u1 u2 => by unfold b2i; rw [decide_eq_true (by omega : p ≤ t), decide_eq_true (by omega : t < q)]; simp), sm_const h2]; simp
  have e3 : sm (fun t => b2i (decide (p ≤ t) && decide (t < q))) (max (min (max p a) b) (min q b)) b = 0 := by
    rw [sm_congr (g := fun _ => 0) (fun t u1 u2 => by
      unfold b2i
      by_cases hq : p ≤ t
      · rw [decide_eq_false (by omega : ¬ t < q)]; simp
      · rw [decide_eq_false hq]; simp), sm_const h3]; simp
  rw [e1, e2, e3]; omega
/- Who has a vehicle at a moment. -/
def lastE (x : Leg) : Int := if x.inn.tm = -1 then 5761440 else x.inn.tm
def onL (v : List UInt8) (x : Leg) (t : Int) : Bool := decide (x.veh = v) && (decide (x.out.tm ≤ t) && decide (t < lastE x))
def occ (v : List UInt8) (h : Hir) (t : Int) : Bool := h.legs.any fun x => onL v x t
/-- Legs come one behind the other. -/
def lgSeq (ls : List Leg) : Prop := (∀ x ∈ ls, 0 ≤ x.out.tm ∧ x.out.tm < lastE x ∧ lastE x ≤ 5761440) ∧ ∀ i j, i < j → j < ls.length → lastE (ls.getD i lg0) ≤ (ls.getD j lg0).out.tm
theorem rdgE_zero {r : Rdg} (h : rdgE r = 0) : 0 ≤ r.tm ∧ r.tm ≤ 5761439 := by
  unfold rdgE at h
  split at h
  · omega
  · omega
theorem legE_zero {h : Hir} {i : Nat} (he : legE h i = 0) : (0 ≤ (h.legs.getD i lg0).out.tm ∧ (h.legs.getD i lg0).out.tm < lastE (h.legs.getD i lg0) ∧ lastE (h.legs.getD i lg0) ≤ 5761440) ∧ (0 < i → (h.legs.getD i lg0).out.tm = (h.legs.getD (i - 1) lg0).inn.tm) ∧
    ((h.legs.getD i lg0).inn.tm = -1 → (h.legs.length : Int) - 1 ≤ i) := by
  unfold legE at he
  split at he
  · omega
  split at he
  · omega
  rename_i h1 h2
  have ho := rdgE_zero (Classical.not_not.1 h2)
  split at he
  · omega
  split at he
  · omega
  rename_i h3 h4
  split at he
  · omega
  split at he
  · omega
  split at he
  · rename_i h5
    split at he
    · omega
    split at he
    · omega
    refine ⟨⟨ho.1, ?_, ?_⟩, fun q => Classical.byContradiction fun q2 => h4 ⟨q, q2⟩, fun _ => by omega⟩
    · unfold lastE; rw [if_pos h5]; omega
    · unfold lastE; rw [if_pos h5]; omega
  · rename_i h5
    split at he
    · omega
    rename_i h6
    have hi := rdgE_zero (Classical.not_not.1 h6)
    split at he
    · omega
    refine ⟨⟨ho.1, ?_, ?_⟩, fun q => Classical.byContradiction fun q2 => h4 ⟨q, q2⟩, fun q => absurd q h5⟩
    · unfold lastE; rw [if_neg h5]; omega
    · unfold lastE; rw [if_neg h5]; omega
theorem lgSeq_of {h : Hir} (he : hirE h = 0) : lgSeq h.legs := by
  have hall : ∀ i, i < h.legs.length → legE h i = 0 := by
    unfold hirE at he
    split at he
    · omega
    split at he
    · omega
    split at he
    · omega
    split at he
    · omega
    exact firstAt_all he
  refine ⟨fun x hx => ?_, fun i j hij hj => ?_⟩
  · obtain ⟨i, hi, rfl⟩ := mem_getD (d := lg0) hx
    exact (legE_zero (hall i hi)).1
  · have next : ∀ k, k + 1 < h.legs.length → lastE (h.legs.getD k lg0) = (h.legs.getD (k + 1) lg0).out.tm := fun k hk => by
      have h1 := (legE_zero (hall (k + 1) hk)).2.1 (by omega)
      rw [Nat.add_sub_cancel] at h1
      have h2 : (h.legs.getD k lg0).inn.tm ≠ -1 := fun q => by
        have := (legE_zero (hall k (by omega))).2.2 q
        omega
      unfold lastE; rw [if_neg h2, h1]
    induction j with
    | zero => omega
    | succ j ih =>
      rcases Nat.lt_or_ge i j with q | q
      · have h1 := ih q (by omega)
        have h2 := (legE_zero (hall j (by omega))).1
        have h3 := next j hj
        omega
      · have : i = j := by omega
        subst this
        rw [next i hj]; exact Int.le_refl _
def occK (v : List UInt8) (ls : List Leg) (k : Nat) (t : Int) : Bool := (ls.take k).any fun x => onL v x t
theorem occK_succ {v : List UInt8} {ls : List Leg} {k : Nat} (hk : k < ls.length) (t : Int) : occK v ls (k + 1) t = (occK v ls k t || onL v (ls.getD k lg0) t) := by
  unfold occK
  rw [take_snocD (d := lg0) hk, List.any_append]; simp
theorem occK_all (v : List UInt8) (h : Hir) (t : Int) : occK v h.legs h.legs.length t = occ v h t := by
  unfold occK occ; rw [List.take_length]
theorem occK_no {v : List UInt8} {ls : List Leg} (hs : lgSeq ls) {k : Nat} (hk : k < ls.length) {t : Int} (h : onL v (ls.getD k lg0) t = true) : occK v ls k t = false := by
  cases q : occK v ls k t with
  | false => rfl
  | true =>
    exfalso
    unfold occK at q
    rw [List.any_eq_true] at q
    obtain ⟨x, hx, hxt⟩ := q
    obtain ⟨i, hi, rfl⟩ := mem_getD (d := lg0) hx
    have hik : i < k := by simp at hi; omega
    have e : (ls.take k).getD i lg0 = ls.getD i lg0 := by
      rw [List.getD_eq_getElem?_getD, List.getD_eq_getElem?_getD, List.getElem?_take_of_lt hik]
    rw [e] at hxt
    have := hs.2 i k hik hk
    unfold onL at h hxt
    simp only [Bool.and_eq_true, decide_eq_true_eq] at h hxt
    omega
theorem sm_onL {v : List UInt8} {x : Leg} {a b : Int} (hab : a ≤ b) : sm (fun t => b2i (onL v x t)) a b = if x.veh = v ∧ (hadX a b x).1 < (hadX a b x).2 then (hadX a b x).2 - (hadX a b x).1 else 0 := by
  by_cases hv : x.veh = v
  · rw [sm_congr (g := fun t => b2i (decide (x.out.tm ≤ t) && decide (t < lastE x))) (fun t _ _ => by unfold onL; rw [decide_eq_true hv, Bool.true_and]), sm_win hab]
    have e : hadX a b x = (max x.out.tm a, min (lastE x) b) := rfl
    rw [e]
    split
    · rename_i h; omega
    · rename_i h
      have : ¬ (max x.out.tm a < min (lastE x) b) := fun q => h ⟨hv, q⟩
      omega
  · rw [sm_congr (g := fun _ => 0) (fun t _ _ => by unfold onL b2i; rw [decide_eq_false hv]; simp), sm_const hab, if_neg (fun q => hv q.1)]; simp
/-- How long a hire had a vehicle in a window. -/
theorem had_sm {v : List UInt8} {a b : Int} (hab : a ≤ b) {ls : List Leg} (hs : lgSeq ls) : ∀ k, k ≤ ls.length → wlen (hadN v a b ls k) = sm (fun t => b2i (occK v ls k t)) a b := by
  intro k
  induction k with
  | zero =>
    intro _
    rw [sm_congr (g := fun _ => 0) (fun t _ _ => by simp [occK, b2i]), sm_const hab]
    simp [hadN, wlen]
  | succ k ih =>
    intro hk
    rw [sm_congr (g := fun t => b2i (occK v ls k t) + b2i (onL v (ls.getD k lg0) t)) (fun t _ _ => by
      rw [occK_succ (by omega)]
      cases q : onL v (ls.getD k lg0) t with
      | false => simp [b2i]
      | true => rw [occK_no hs (by omega) q]; simp [b2i]), sm_plus, ← ih (by omega), sm_onL hab, hadN, wlen_app]
    split
    · simp [wlen]
    · simp [wlen]
def hadH (v : List UInt8) (a b : Int) (h : Hir) : List Win := hadN v a b h.legs h.legs.length
def hadS (v : List UInt8) (a b : Int) (h : Hir) : Int := wlen (hadH v a b h)
theorem hadS_sm {v : List UInt8} {a b : Int} (hab : a ≤ b) {h : Hir} (hs : lgSeq h.legs) : hadS v a b h = sm (fun t => b2i (occ v h t)) a b := by
  unfold hadS hadH
  rw [had_sm hab hs _ (Nat.le_refl _)]
  exact sm_congr fun t _ _ => by rw [occK_all]
theorem hadN_mem {v : List UInt8} {a b : Int} {ls : List Leg} {x : Win} : ∀ {k}, x ∈ hadN v a b ls k ↔ ∃ i, i < k ∧ (ls.getD i lg0).veh = v ∧ (hadX a b (ls.getD i lg0)).1 < (hadX a b (ls.getD i lg0)).2 ∧ x = hadX a b (ls.getD i lg0) := by
  intro k
  induction k with
  | zero => simp [hadN]
  | succ k ih =>
    rw [hadN, List.mem_append, ih]
    constructor
    · rintro (⟨i, h1, h2⟩ | h)
      · exact ⟨i, by omega, h2⟩
      · split at h
        · rename_i hh; simp at h; exact ⟨k, by omega, hh.1, hh.2, h⟩
        · cases h
    · rintro ⟨i, h1, h2, h3, h4⟩
      rcases Nat.lt_or_ge i k with q | q
      · exact .inl ⟨i, q, h2, h3, h4⟩
      · have : i = k := by omega
        subst this
        refine .inr ?_
        rw [if_pos ⟨h2, h3⟩]; simp [h4]
/-- A moment lies in a window of a hire, if the hire has the vehicle then. -/
theorem hadH_of {v : List UInt8} {a b t : Int} {h : Hir} (h1 : a ≤ t) (h2 : t < b) (ho : occ v h t = true) : ∃ x ∈ hadH v a b h, x.1 ≤ t ∧ t < x.2 := by
  unfold occ at ho
  rw [List.any_eq_true] at ho
  obtain ⟨x, hx, hxt⟩ := ho
  obtain ⟨i, hi, rfl⟩ := mem_getD (d := lg0) hx
  unfold onL at hxt
  simp only [Bool.and_eq_true, decide_eq_true_eq] at hxt
  have e : hadX a b (h.legs.getD i lg0) = (max (h.legs.getD i lg0).out.tm a, min (lastE (h.legs.getD i lg0)) b) := rfl
  refine ⟨hadX a b (h.legs.getD i lg0), hadN_mem.2 ⟨i, hi, hxt.1, ?_, rfl⟩, ?_⟩
  · rw [e]; show max _ a < min _ b; omega
  · rw [e]; constructor
    · show max _ a ≤ t; omega
    · show t < min _ b; omega
theorem hadH_to {v : List UInt8} {a b t : Int} {h : Hir} {x : Win} (hx : x ∈ hadH v a b h) (h1 : x.1 ≤ t) (h2 : t < x.2) : (a ≤ t ∧ t < b) ∧ occ v h t = true := by
  obtain ⟨i, hi, hv, _, rfl⟩ := hadN_mem.1 hx
  have e : hadX a b (h.legs.getD i lg0) = (max (h.legs.getD i lg0).out.tm a, min (lastE (h.legs.getD i lg0)) b) := rfl
  rw [e] at h1 h2
  have h1 : max (h.legs.getD i lg0).out.tm a ≤ t := h1
  have h2 : t < min (lastE (h.legs.getD i lg0)) b := h2
  refine ⟨by omega, ?_⟩
  unfold occ
  rw [List.any_eq_true]
  refine ⟨h.legs.getD i lg0, getD_mem hi, ?_⟩
  unfold onL
  rw [decide_eq_true hv, decide_eq_true (by omega : (h.legs.getD i lg0).out.tm ≤ t), decide_eq_true (by omega : t < lastE (h.legs.getD i lg0))]; rfl
theorem had_disj {v : List UInt8} {a b : Int} {ls : List Leg} (hs : lgSeq ls) : ∀ k, k ≤ ls.length → disjW (hadN v a b ls k) := by
  intro k
  induction k with
  | zero => intro _; exact List.Pairwise.nil
  | succ k ih =>
    intro hk
    rw [hadN]
    split
    · rename_i hh
      refine disj_snoc (ih (by omega)) (fun y hy => ?_)
      obtain ⟨i, hi, _, _, rfl⟩ := hadN_mem.1 hy
      have := hs.2 i k hi (by omega)
      have e1 : hadX a b (ls.getD i lg0) = (max (ls.getD i lg0).out.tm a, min (lastE (ls.getD i lg0)) b) := rfl
      have e2 : hadX a b (ls.getD k lg0) = (max (ls.getD k lg0).out.tm a, min (lastE (ls.getD k lg0)) b) := rfl
      unfold hitP
      rw [e1, e2, decide_eq_false (show ¬ (max (ls.getD k lg0).out.tm a < min (lastE (ls.getD i lg0)) b) by omega), Bool.false_and]
    · rw [List.append_nil]; exact ih (by omega)
/- Two of a list. -/
theorem two_of {α : Type} {p : α → Bool} {d : α} : ∀ {l : List α} {i j : Nat}, i < j → j < l.length → p (l.getD i d) = true → p (l.getD j d) = true → 2 ≤ (l.filter p).length := by
  intro l
  induction l with
  | nil => intro i j _ h; simp at h
  | cons x l ih =>
    intro i j hij hj hi hjp
    cases j with
    | zero => omega
    | succ j =>
      rw [List.getD_cons_succ] at hjp
      cases i with
      | zero =>
        rw [List.getD_cons_zero] at hi
        rw [List.filter_cons_of_pos hi, List.length_cons]
        have : 0 < (l.filter p).length := List.length_pos_of_mem (List.mem_filter.2 ⟨getD_mem (by simpa using hj), hjp⟩)
        omega
      | succ i =>
        rw [List.getD_cons_succ] at hi
        have := ih (by omega) (by simpa using hj) hi hjp
        have h2 : (l.filter p).length ≤ ((x :: l).filter p).length := by
          rw [List.filter_cons]; split <;> simp
        omega
theorem two_to {α : Type} {p : α → Bool} {d : α} : ∀ {l : List α}, 2 ≤ (l.filter p).length → ∃ i j, i < j ∧ j < l.length ∧ p (l.getD i d) = true ∧ p (l.getD j d) = true := by
  intro l
  induction l with
  | nil => intro h; simp at h
  | cons x l ih =>
    intro h
    by_cases hx : p x = true
    · rw [List.filter_cons_of_pos hx, List.length_cons] at h
      have : 0 < (l.filter p).length := by omega
      obtain ⟨y, hy⟩ := List.exists_mem_of_length_pos this
      obtain ⟨hy1, hy2⟩ := List.mem_filter.1 hy
      obtain ⟨j, hj, rfl⟩ := mem_getD (d := d) hy1
      exact ⟨0, j + 1, by omega, by simp; omega, by simpa using hx, by simpa using hy2⟩
    · rw [List.filter_cons_of_neg hx] at h
      obtain ⟨i, j, h1, h2, h3, h4⟩ := ih h
      exact ⟨i + 1, j + 1, by omega, by simp; omega, by simpa using h3, by simpa using h4⟩
def whoL (v : List UInt8) (l : List Hir) (t : Int) : List (List UInt8) := (l.filter fun h => occ v h t).map (·.key)
/-- Two hires have the vehicle at once. -/
def clash (v : List UInt8) (a b : Int) (l : List Hir) : Prop := ∃ t, a ≤ t ∧ t < b ∧ 2 ≤ (whoL v l t).length
def hadA (v : List UInt8) (a b : Int) (l : List Hir) (i : Nat) : List Win := (l.take i).flatMap (hadH v a b)
theorem hadA_succ {v : List UInt8} {a b : Int} {l : List Hir} {i : Nat} (hi : i < l.length) : hadA v a b l (i + 1) = hadA v a b l i ++ hadH v a b (l.getD i hi0) := by
  unfold hadA; rw [take_snocD (d := hi0) hi, List.flatMap_append]; simp
theorem hadA_mem {v : List UInt8} {a b : Int} {l : List Hir} {i : Nat} (hi : i ≤ l.length) {x : Win} : x ∈ hadA v a b l i ↔ ∃ j, j < i ∧ x ∈ hadH v a b (l.getD j hi0) := by
  unfold hadA
  rw [List.mem_flatMap]
  constructor
  · rintro ⟨h, hh, hx⟩
    obtain ⟨j, hj, rfl⟩ := mem_getD (d := hi0) hh
    have hj : j < i := by simp at hj; omega
    refine ⟨j, hj, ?_⟩
    have e : (l.take i).getD j hi0 = l.getD j hi0 := by rw [List.getD_eq_getElem?_getD, List.getD_eq_getElem?_getD, List.getElem?_take_of_lt hj]
    rw [← e]; exact hx
  · rintro ⟨j, hj, hx⟩
    refine ⟨l.getD j hi0, ?_, hx⟩
    have e : (l.take i).getD j hi0 = l.getD j hi0 := by rw [List.getD_eq_getElem?_getD, List.getD_eq_getElem?_getD, List.getElem?_take_of_lt hj]
    rw [← e]; exact getD_mem (by simp; omega)
theorem hitW_yes {l : List Win} {x : Win} : hitW l x = true ↔ ∃ y ∈ l, hitP x y = true := by
  constructor
  · intro h
    refine Classical.byContradiction fun q => ?_
    have hno : ∀ j, j < l.length → hitP x (l.getD j vw0) = false := fun j hj => by
      cases e : hitP x (l.getD j vw0) with
      | false => rfl
      | true => exact absurd ⟨_, getD_mem hj, e⟩ q
    unfold hitW at h
    rw [ixF_none hno] at h
    simp at h
  · rintro ⟨y, hy, hh⟩
    cases q : hitW l x with
    | true => rfl
    | false => rw [hitW_no q y hy] at hh; cases hh
theorem meet_at {v : List UInt8} {a b : Int} {h k : Hir} {x y : Win} (hx : x ∈ hadH v a b h) (hy : y ∈ hadH v a b k) (hh : hitP x y = true) : ∃ t, (a ≤ t ∧ t < b) ∧ occ v h t = true ∧ occ v k t = true := by
  unfold hitP at hh
  simp only [Bool.and_eq_true, decide_eq_true_eq] at hh
  have h1 := (hadN_ok v a b h.legs h.legs.length).2 x hx
  have h2 := (hadN_ok v a b k.legs k.legs.length).2 y hy
  obtain ⟨q1, q2⟩ := hadH_to (t := max x.1 y.1) hx (by omega) (by omega)
  obtain ⟨_, q4⟩ := hadH_to (t := max x.1 y.1) hy (by omega) (by omega)
  exact ⟨_, q1, q2, q4⟩
theorem clash_of {v : List UInt8} {a b : Int} {l : List Hir} {i : Nat} (hi : i < l.length) (hs : lgSeq (l.getD i hi0).legs) {j : Nat} (hj : j < (hadH v a b (l.getD i hi0)).length)
    (h : hitW (hadA v a b l i ++ (hadH v a b (l.getD i hi0)).take j) ((hadH v a b (l.getD i hi0)).getD j vw0) = true) : clash v a b l := by
  obtain ⟨y, hy, hh⟩ := hitW_yes.1 h
  rcases List.mem_append.1 hy with q | q
  · obtain ⟨i', hi', hy'⟩ := (hadA_mem (by omega)).1 q
    obtain ⟨t, ht, o1, o2⟩ := meet_at (getD_mem hj) hy' hh
    refine ⟨t, ht.1, ht.2, ?_⟩
    unfold whoL
    rw [List.length_map]
    exact two_of (d := hi0) hi' hi o2 o1
  · exfalso
    have hd := had_disj (v := v) (a := a) (b := b) hs _ (Nat.le_refl _)
    obtain ⟨m, hm, rfl⟩ := List.getElem_of_mem q
    rw [List.getElem_take] at hh
    have hmj : m < j := by simp at hm; omega
    have := List.pairwise_iff_getElem.1 hd m j (by show m < (hadH v a b (l.getD i hi0)).length; omega) hj hmj
    have e2 : (hadH v a b (l.getD i hi0)).getD j vw0 = (hadH v a b (l.getD i hi0))[j] := by rw [List.getD_eq_getElem?_getD (l := hadH v a b (l.getD i hi0)), List.getElem?_eq_getElem hj]; rfl
    rw [e2, hitP_comm] at hh
    have e : hitP (hadH v a b (l.getD i hi0))[m] (hadH v a b (l.getD i hi0))[j] = false := this
    rw [e] at hh; cases hh
theorem no_clash {v : List UInt8} {a b : Int} {l : List Hir} (h : ∀ i, i < l.length → ∀ j, j < (hadH v a b (l.getD i hi0)).length → hitW (hadA v a b l i ++ (hadH v a b (l.getD i hi0)).take j) ((hadH v a b (l.getD i hi0)).getD j vw0) = false) : ¬ clash v a b l := by
  rintro ⟨t, h1, h2, h3⟩
  unfold whoL at h3
  rw [List.length_map] at h3
  obtain ⟨i, k, hik, hk, o1, o2⟩ := two_to (d := hi0) h3
  obtain ⟨x, hx, x1, x2⟩ := hadH_of h1 h2 o2
  obtain ⟨y, hy, y1, y2⟩ := hadH_of h1 h2 o1
  obtain ⟨j, hj, rfl⟩ := mem_getD (d := vw0) hx
  have := h k hk j hj
  have hh : hitW (hadA v a b l k ++ (hadH v a b (l.getD k hi0)).take j) ((hadH v a b (l.getD k hi0)).getD j vw0) = true := by
    rw [hitW_yes]
    refine ⟨y, List.mem_append_left _ ((hadA_mem (by omega)).2 ⟨i, hik, hy⟩), ?_⟩
    unfold hitP
    rw [decide_eq_true (by omega), decide_eq_true (by omega)]; rfl
  rw [hh] at this; cases this
/- The parts. -/
def prts (v : List UInt8) (a b : Int) (l : List Hir) : List Pair := (l.map fun h => (h.key, hadS v a b h)).filter fun p => decide (0 < p.2)
theorem prts_take {v : List UInt8} {a b : Int} {l : List Hir} {i : Nat} (hi : i < l.length) : prts v a b (l.take (i + 1)) = prts v a b (l.take i) ++ (if 0 < hadS v a b (l.getD i hi0) then [((l.getD i hi0).key, hadS v a b (l.getD i hi0))] else []) := by
  unfold prts
  rw [take_snocD (d := hi0) hi, List.map_append, List.filter_append, List.map_singleton]
  congr 1
  split
  · rename_i h; rw [List.filter_cons_of_pos (by simpa using h)]; rfl
  · rename_i h; rw [List.filter_cons_of_neg (by simpa using h)]; rfl
theorem hadS_nonneg (v : List UInt8) (a b : Int) (h : Hir) : 0 ≤ hadS v a b h := by
  have hh := (hadN_ok v a b h.legs h.legs.length).2
  unfold hadS hadH wlen
  refine sum_nonneg fun x hx => ?_
  obtain ⟨y, hy, rfl⟩ := List.mem_map.1 hx
  have := hh y hy
  omega
theorem prts_sum {v : List UInt8} {a b : Int} : ∀ l : List Hir, ((prts v a b l).map (·.2)).sum = (l.map (hadS v a b)).sum := by
  intro l
  induction l with
  | nil => rfl
  | cons h l ih =>
    unfold prts at *
    simp only [List.map_cons, List.sum_cons, List.filter_cons]
    have := hadS_nonneg v a b h
    split
    · simp only [List.map_cons, List.sum_cons, ih]
    · rename_i q
      have : hadS v a b h = 0 := by simp at q; omega
      rw [ih, this]; omega
theorem hadA_wlen {v : List UInt8} {a b : Int} : ∀ l : List Hir, wlen (l.flatMap (hadH v a b)) = (l.map (hadS v a b)).sum := by
  intro l
  induction l with
  | nil => rfl
  | cons h l ih => rw [List.flatMap_cons, wlen_app, ih, List.map_cons, List.sum_cons]; rfl
/-- What a window has of hires, and of none. -/
def offi (v : List UInt8) (a b : Int) (l : List Hir) : Int := b - a - (l.map (hadS v a b)).sum
def wtsP (v : List UInt8) (a b : Int) (l : List Hir) : List Pair := if 0 < offi v a b l then ([], offi v a b l) :: prts v a b l else prts v a b l
def mkS (c : Int) (ws : List Pair) : List Pair := List.zipWith (fun p x => (p.1, x)) ws (splitG c (ws.map (·.2)))
open Classical in
/-- Blame. -/
noncomputable def blmE (v : List UInt8) (a b : Int) (l : List Hir) (c : Int) : List Pair × Int :=
  if clash v a b l then ([], 13) else if ¬ (0 ≤ c ∧ c ≤ 1000000000) then ([], 1) else if a = b then ([([], c)], 0) else (mkS c (wtsP v a b l), 0)
theorem who_sm {v : List UInt8} {a b : Int} (hab : a ≤ b) : ∀ l : List Hir, (∀ h ∈ l, lgSeq h.legs) → (l.map (hadS v a b)).sum = sm (fun t => ((whoL v l t).length : Int)) a b := by
  intro l
  induction l with
  | nil =>
    intro _
    rw [sm_congr (g := fun _ => 0) (fun t _ _ => by simp [whoL]), sm_const hab]; simp
  | cons h l ih =>
    intro hs
    rw [List.map_cons, List.sum_cons, ih (fun k hk => hs k (by simp [hk])), hadS_sm hab (hs h (by simp)), ← sm_plus]
    refine sm_congr fun t _ _ => ?_
    unfold whoL b2i
    rw [List.length_map, List.length_map, List.filter_cons]
    split
    · simp; omega
    · simp
/-- Without clashes: how long nobody had it. -/
theorem offi_sm {v : List UInt8} {a b : Int} (hab : a ≤ b) {l : List Hir} (hs : ∀ h ∈ l, lgSeq h.legs) (hn : ¬ clash v a b l) : offi v a b l = sm (fun t => b2i (decide (whoL v l t = []))) a b := by
  unfold offi
  rw [who_sm hab l hs]
  have e : b - a = sm (fun _ => 1) a b := by rw [sm_const hab]; omega
  have h2 : sm (fun _ => 1) a b = sm (fun t => b2i (decide (whoL v l t = []))) a b + sm (fun t => ((whoL v l t).length : Int)) a b := by
    rw [← sm_plus]
    refine sm_congr fun t h1 h2 => ?_
    have h3 : (whoL v l t).length < 2 := Classical.byContradiction fun q => hn ⟨t, h1, h2, by omega⟩
    unfold b2i
    cases q : whoL v l t with
    | nil => simp
    | cons x r =>
      rw [q] at h3
      obtain rfl : r = [] := List.eq_nil_of_length_eq_zero (by simp at h3; omega)
      simp
  omega
/-- A hire's own time. -/
theorem hadS_who {v : List UInt8} {a b : Int} (hab : a ≤ b) {l : List Hir} (hs : ∀ h ∈ l, lgSeq h.legs) (hn : ¬ clash v a b l) (hk : l.Pairwise fun g h => g.key ≠ h.key) {h : Hir} (hm : h ∈ l) : hadS v a b h = sm (fun t => b2i (decide (whoL v l t = [h.key]))) a b := by
  rw [hadS_sm hab (hs h hm)]
  refine sm_congr fun t h1 h2 => ?_
  have h3 : (whoL v l t).length < 2 := Classical.byContradiction fun q => hn ⟨t, h1, h2, by omega⟩
  congr 1
  cases q : occ v h t with
  | true =>
    have hmem : h.key ∈ whoL v l t := List.mem_map.2 ⟨h, List.mem_filter.2 ⟨hm, q⟩, rfl⟩
    cases e : whoL v l t with
    | nil => rw [e] at hmem; cases hmem
    | cons x r =>
      rw [e] at h3 hmem
      obtain rfl : r = [] := List.eq_nil_of_length_eq_zero (by simp at h3; omega)
      simp at hmem
      rw [hmem]; simp
  | false =>
    symm
    rw [decide_eq_false_iff_not]
    intro e
    have hmem : h.key ∈ whoL v l t := by rw [e]; simp
    obtain ⟨g, hg, hgk⟩ := List.mem_map.1 hmem
    obtain ⟨hg1, hg2⟩ := List.mem_filter.1 hg
    have : g = h := by
      obtain ⟨i, hi, rfl⟩ := List.getElem_of_mem hg1
      obtain ⟨j, hj, rfl⟩ := List.getElem_of_mem hm
      rcases Nat.lt_trichotomy i j with c | c | c
      · exact absurd hgk (List.pairwise_iff_getElem.1 hk i j hi hj c)
      · subst c; rfl
      · exact absurd hgk.symm (List.pairwise_iff_getElem.1 hk j i hj hi c)
    subst this
    rw [hg2] at q; cases q
end Go.Proofs.YtcjfniddeibbhaaGreatDoor
set_option maxRecDepth 20000
namespace Go.Proofs.YtcjfniddeibbhaaGreatDoor
open Go Go.Eng
theorem hirE_start {key : List UInt8} {f : Int} (hk : isKeyB key = true) (h0 : 0 ≤ f) (h1 : f ≤ 10000) : hirE (startH key [97, 110, 110] f (f + 60) [118, 49] ⟨f, [115, 49], 0, 0⟩) = 0 := by
  have k1 : isKeyB [97, 110, 110] = true := by decide
  have k2 : isKeyB [118, 49] = true := by decide
  have k3 : isKeyB [115, 49] = true := by decide
  have ht : timE f (f + 60) = 0 := by unfold timE; grind
  have hr : rdgE ⟨f, [115, 49], 0, 0⟩ = 0 := by unfold rdgE; simp only [k3]; grind
  rw [hirE_legs (by exact hk) (by exact k1) (by exact ht)]
  have hl : legE (startH key [97, 110, 110] f (f + 60) [118, 49] ⟨f, [115, 49], 0, 0⟩) 0 = 0 := by
    unfold legE startH
    simp only [List.getD_cons_zero, k2, hr, rgN]
    simp
  rw [if_neg (by simp [startH]), if_neg (by simp [startH])]
  show firstAt _ 1 = 0
  simp [firstAt, hl]
theorem pkD {l : List Int} {x : Int} (h : x ∈ l) (hl : (l.all fun y => decide (0 ≤ y) && decide (y ≤ 3000)) = true) : 0 ≤ x ∧ x ≤ 3000 := by
  have := List.all_eq_true.1 hl x h
  simpa using this
theorem pkT {x : Int} (h : x ∈ [(0 : Int), 0, 1, 2]) : 0 ≤ x ∧ x ≤ 2 := by simp at h; omega
-- RightHire
set_option maxHeartbeats 4000000 in
theorem sRh (n : Nat) (L : Nat → Int) (hL : Rok n L) (a : Int) (h0 : 0 ≤ a) (ha : a ≤ 2^37) (key : List UInt8) (hkl : key.length ≤ 8) (f : Int) (hf0 : 0 ≤ f) (hf1 : f ≤ 10000) :
    FSpec Tryz.prog 69 [.ptr 1000000 0, .d (.str key), .d (.int .i64 f)] [(1000000, strm n L a)] (fun y r => (∃ h : Hir, hiB 3 h ∧ (isKeyB key = true → 1 ≤ h.legs.length) ∧ y = .agg ((hiF h).map .d)) ∧ Moved n L a 400 r) := by
  refine spec_of hT (C := []) Tryz.func69 rfl Tryz.call69 rfl rfl rfl ?_
  conv => whnf
  repeat' (first
    | (refine br_intro (fun hb => ?_) (fun hb => ?_) <;> (try simp only [decide_eq_true_eq, decide_eq_false_iff_not, Bool.not_eq_true', Bool.not_eq_false', Bool.and_eq_true, Bool.or_eq_true, beq_iff_eq, not_and, Int.not_le, Int.not_lt, Int.toNat_natCast, beq_eq_false_iff_ne, ne_eq, eq_self, not_true_eq_false, not_false_eq_true] at hb) <;> (conv => whnf))
    | (refine RegX.rule (id := 4) hT rfl [] [(0, []), (1, [0]), (2, [0, 1]), (4, [0, 1, 2]), (5, [0, 1, 2, 4]), (6, [0, 1, 2, 4, 5]), (8, [0, 1, 2, 4, 5, 6]), (9, [0, 1, 2, 4, 5, 6, 8]), (15, [0, 1, 2, 4, 5, 6, 8, 9]), (3, [0, 4, 5, 6, 8, 9, 15]), (7, [0, 4, 8, 9, 15]), (10, [0, 4, 15]), (11, [15]), (12, [15]), (13, [15]), (14, [15, 13]), (16, [14]), (17, [])] (by decide +kernel) ?_; conv => whnf)
    | (refine RegX.rule (id := 13) hT rfl [] [(0, []), (1, [0]), (2, [0, 1]), (3, [0, 1, 2]), (5, [0, 1, 2, 3]), (10, [0, 1, 2, 3, 5]), (4, [0, 1, 5, 10]), (6, [10]), (7, [10]), (8, [10]), (9, [10, 8]), (11, [9]), (12, [])] (by decide +kernel) ?_; conv => whnf)
    | (refine RegX.rule (id := 19) hT rfl [] [(0, []), (1, [0]), (2, [0, 1]), (8, [0, 1, 2]), (3, [0, 8]), (4, [8]), (5, [8]), (6, [8]), (7, [8, 6]), (9, [7]), (10, [])] (by decide +kernel) ?_; conv => whnf)
    | omega
    | (refine And.intro ?_ ?_; ((try dsimp only); first | omega | (refine ⟨by omega, by omega, Int.le_trans (Int.mul_le_mul_of_nonneg_right (Int.ofNat_le.2 (Nat.le_of_ble_eq_true (rfl : Nat.ble _ 1024 = true))) (by omega)) (by omega), by omega⟩) | (refine Nat.le_trans (Nat.mul_le_mul_left _ (Nat.le_of_ble_eq_true (rfl : Nat.ble _ 1024 = true))) ?_; omega) | (unfold inI64; omega) | (constructor <;> omega) | (simp only [inI64, List.length_cons, List.length_append, List.length_nil, List.length_set] at *; omega) | decide | (unfold inI64; decide)); conv => whnf)
    | omega | decide | assumption)
  refine LoopX.rule hT (C := []) (ι := Int × Nat) (fun (b, i) => a ≤ b ∧ b ≤ a + 20 * i ∧ i ≤ 6) (fun (b, i) => mkSt [(0, .ptr 1000000 0), (1, .d (.str key)), (2, .d (.int .i64 f)), (6, .ptr 6 0), (19, .d (.int .i64 i))] [(1000000, strm n L b), (6, zcell)]) (fun (_, i) => 6 - i) (a, 0) (by simp) (by (refine Entails.mk' [(1000000, 1000000), (6, 6)] rfl rfl ?_ ?_ <;> repeat' (first | exact True.intro | exact SV.le_refl _ | exact Res.le_refl _ | exact SV.le_int (by omega) | exact SV.le_any _ | refine And.intro ?_ ?_)); done) ?_
  rintro ⟨b, i⟩ ⟨p1, p2, p3⟩
  have p1 : a ≤ b := p1
  have p2 : b ≤ a + 20 * i := p2
  have p3 : i ≤ 6 := p3
  conv => whnf
  repeat' (first
    | (refine CallX.of (s33 n L hL _ ?_ ?_ [60, 100, 1440, 2000, 3000] ?_ ?_) [(1000000, 1000000)] rfl ⟨SV.le_refl _, SV.le_lit rfl rfl, trivial⟩ ⟨Res.le_refl _, trivial⟩ rfl rfl ?_; rotate_right; rintro x rout ⟨⟨u1, hu1, rfl⟩, ⟨c, c1, c2, rfl⟩⟩; have hw1 := pkD hu1 (by decide); refine ⟨rfl, ?_⟩; conv => whnf)
    | (refine CallX.of (s15 n L hL _ ?_ ?_ [[97, 110, 110], [97, 110, 110], [98, 111, 98], [99, 105, 100]] (by simp) (by simp)) [(1000000, 1000000)] rfl ⟨SV.le_refl _, SV.le_lit rfl rfl, trivial⟩ ⟨Res.le_refl _, trivial⟩ rfl rfl ?_; rotate_right; rintro x rout ⟨⟨u2, hu2, rfl⟩, ⟨c, c1, c2, rfl⟩⟩; have hw2 := mem_len hu2 rfl; refine ⟨rfl, ?_⟩; conv => whnf)
    | (refine CallX.of (s15 n L hL _ ?_ ?_ [[118, 49], [118, 49], [118, 50], [118, 51]] (by simp) (by simp)) [(1000000, 1000000)] rfl ⟨SV.le_refl _, SV.le_lit rfl rfl, trivial⟩ ⟨Res.le_refl _, trivial⟩ rfl rfl ?_; rotate_right; rintro x rout ⟨⟨u3, hu3, rfl⟩, ⟨c, c1, c2, rfl⟩⟩; have hw3 := mem_len hu3 rfl; refine ⟨rfl, ?_⟩; conv => whnf)
    | (refine CallX.of (sRdg n L hL _ ?_ ?_ f ?_ ?_) [(1000000, 1000000)] rfl ⟨SV.le_refl _, SV.le_refl _, trivial⟩ ⟨Res.le_refl _, trivial⟩ rfl rfl ?_; rotate_right; rintro x rout ⟨⟨r1, hr1, rfl⟩, ⟨c, c1, c2, rfl⟩⟩; refine ⟨rfl, ?_⟩; conv => whnf)
    | (refine CallX.pure (z212 key u2 f (f + u1) u3 r1 hkl hw2 hw3 hr1) ⟨SV.le_refl _, SV.le_refl _, SV.le_refl _, SV.le_refl _, SV.le_refl _, trivial⟩ rfl ?_; conv => whnf)
    | (refine CallX.pure (z212 key [97, 110, 110] f (f + 60) [118, 49] ⟨f, [115, 49], 0, 0⟩ hkl (by decide) (by decide) (show ([115, 49] : List UInt8).length ≤ 8 by decide)) ⟨SV.le_refl _, SV.le_refl _, SV.le_refl _, SV.le_refl _, SV.le_refl _, trivial⟩ rfl ?_; conv => whnf)
    | (refine br_intro (fun hb => ?_) (fun hb => ?_) <;> (try simp only [decide_eq_true_eq, decide_eq_false_iff_not, Bool.not_eq_true', Bool.not_eq_false', Bool.and_eq_true, Bool.or_eq_true, beq_iff_eq, not_and, Int.not_le, Int.not_lt, Int.toNat_natCast, beq_eq_false_iff_ne, ne_eq, eq_self, not_true_eq_false, not_false_eq_true] at hb) <;> (conv => whnf))
    | (refine RegX.rule (id := 4) hT rfl [] [(0, []), (1, [0]), (2, [0, 1]), (4, [0, 1, 2]), (5, [0, 1, 2, 4]), (6, [0, 1, 2, 4, 5]), (8, [0, 1, 2, 4, 5, 6]), (9, [0, 1, 2, 4, 5, 6, 8]), (15, [0, 1, 2, 4, 5, 6, 8, 9]), (3, [0, 4, 5, 6, 8, 9, 15]), (7, [0, 4, 8, 9, 15]), (10, [0, 4, 15]), (11, [15]), (12, [15]), (13, [15]), (14, [15, 13]), (16, [14]), (17, [])] (by decide +kernel) ?_; conv => whnf)
    | (refine RegX.rule (id := 13) hT rfl [] [(0, []), (1, [0]), (2, [0, 1]), (3, [0, 1, 2]), (5, [0, 1, 2, 3]), (10, [0, 1, 2, 3, 5]), (4, [0, 1, 5, 10]), (6, [10]), (7, [10]), (8, [10]), (9, [10, 8]), (11, [9]), (12, [])] (by decide +kernel) ?_; conv => whnf)
    | (refine RegX.rule (id := 19) hT rfl [] [(0, []), (1, [0]), (2, [0, 1]), (8, [0, 1, 2]), (3, [0, 8]), (4, [8]), (5, [8]), (6, [8]), (7, [8, 6]), (9, [7]), (10, [])] (by decide +kernel) ?_; conv => whnf)
    | omega
    | (refine And.intro ?_ ?_; ((try dsimp only); first | omega | (refine ⟨by omega, by omega, Int.le_trans (Int.mul_le_mul_of_nonneg_right (Int.ofNat_le.2 (Nat.le_of_ble_eq_true (rfl : Nat.ble _ 1024 = true))) (by omega)) (by omega), by omega⟩) | (refine Nat.le_trans (Nat.mul_le_mul_left _ (Nat.le_of_ble_eq_true (rfl : Nat.ble _ 1024 = true))) ?_; omega) | (unfold inI64; omega) | (constructor <;> omega) | (simp only [inI64, List.length_cons, List.length_append, List.length_nil, List.length_set] at *; omega) | decide | (unfold inI64; decide)); conv => whnf)
    | omega | decide | assumption)
  all_goals first
    | (refine ⟨(_, i + 1), ⟨by omega, ?_, by omega⟩, (show 6 - (i + 1) < 6 - i by omega), Entails.mk' [(1000000, 1000000), (6, 6)] rfl rfl ⟨SV.le_refl _, SV.le_refl _, SV.le_refl _, SV.le_refl _, SV.le_refl _, trivial⟩ ⟨Res.le_refl _, Res.le_refl _, trivial⟩⟩
       show _ ≤ a + 20 * ((i + 1 : Nat) : Int)
       omega)
    | (have hE := fun h => hirE_start (key := key) (f := f) h hf0 hf1
       have hB := startH_B (key := key) (drv := [97, 110, 110]) (a := f) (b := f + 60) (v := [118, 49]) (o := ⟨f, [115, 49], 0, 0⟩) hkl (by decide) (by decide) (show ([115, 49] : List UInt8).length ≤ 8 by decide)
       obtain ⟨H, hH⟩ : ∃ H : Hir, H = if hirE (startH key [97, 110, 110] f (f + 60) [118, 49] ⟨f, [115, 49], 0, 0⟩) = 0 then startH key [97, 110, 110] f (f + 60) [118, 49] ⟨f, [115, 49], 0, 0⟩ else hi0 := ⟨_, rfl⟩
       have hfin : hiB 3 H := by
         subst hH
         split
         · exact hiB_le hB (by omega)
         · exact hiB_0
       have hfl : isKeyB key = true → 1 ≤ H.legs.length := fun q => by
         subst hH
         rw [if_pos (hE q)]; simp [startH]
       refine .ret _ ?_
       conv => whnf
       exact ⟨[(1000000, strm n L _)], ⟨⟨_, by rw [← hH]; exact hfin, by rw [← hH]; exact hfl, rfl⟩, _, by omega, by omega, rfl⟩, Res.le_refl _, trivial⟩)
    | skip
  all_goals
    have hE : hirE (startH key u2 f (f + u1) u3 r1) = 0 := by omega
    rw [if_pos hE]
    have hB := startH_B (key := key) (drv := u2) (a := f) (b := f + u1) (v := u3) (o := r1) hkl hw2 hw3 hr1
    have hBl : 1 ≤ (startH key u2 f (f + u1) u3 r1).legs.length := by simp [startH]
    generalize startH key u2 f (f + u1) u3 r1 = H0 at hB hBl ⊢
    repeat' (first
      | (refine CallX.of (s33 n L hL _ ?_ ?_ [0, 0, 1, 2] ?_ ?_) [(1000000, 1000000)] rfl ⟨SV.le_refl _, SV.le_lit rfl rfl, trivial⟩ ⟨Res.le_refl _, trivial⟩ rfl rfl ?_; rotate_right; rintro x rout ⟨⟨k, hk, rfl⟩, ⟨c, c1, c2, rfl⟩⟩; have hk2 := pkT hk; refine ⟨rfl, ?_⟩; conv => whnf)
      | (refine br_intro (fun hb => ?_) (fun hb => ?_) <;> (try simp only [decide_eq_true_eq, decide_eq_false_iff_not, Bool.not_eq_true', Bool.not_eq_false', Bool.and_eq_true, Bool.or_eq_true, beq_iff_eq, not_and, Int.not_le, Int.not_lt, Int.toNat_natCast, beq_eq_false_iff_ne, ne_eq, eq_self, not_true_eq_false, not_false_eq_true] at hb) <;> (conv => whnf))
      | (refine RegX.rule (id := 4) hT rfl [] [(0, []), (1, [0]), (2, [0, 1]), (4, [0, 1, 2]), (5, [0, 1, 2, 4]), (6, [0, 1, 2, 4, 5]), (8, [0, 1, 2, 4, 5, 6]), (9, [0, 1, 2, 4, 5, 6, 8]), (15, [0, 1, 2, 4, 5, 6, 8, 9]), (3, [0, 4, 5, 6, 8, 9, 15]), (7, [0, 4, 8, 9, 15]), (10, [0, 4, 15]), (11, [15]), (12, [15]), (13, [15]), (14, [15, 13]), (16, [14]), (17, [])] (by decide +kernel) ?_; conv => whnf)
      | (refine RegX.rule (id := 13) hT rfl [] [(0, []), (1, [0]), (2, [0, 1]), (3, [0, 1, 2]), (5, [0, 1, 2, 3]), (10, [0, 1, 2, 3, 5]), (4, [0, 1, 5, 10]), (6, [10]), (7, [10]), (8, [10]), (9, [10, 8]), (11, [9]), (12, [])] (by decide +kernel) ?_; conv => whnf)
      | (refine RegX.rule (id := 19) hT rfl [] [(0, []), (1, [0]), (2, [0, 1]), (8, [0, 1, 2]), (3, [0, 8]), (4, [8]), (5, [8]), (6, [8]), (7, [8, 6]), (9, [7]), (10, [])] (by decide +kernel) ?_; conv => whnf)
      | omega
      | (refine And.intro ?_ ?_; ((try dsimp only); first | omega | (refine ⟨by omega, by omega, Int.le_trans (Int.mul_le_mul_of_nonneg_right (Int.ofNat_le.2 (Nat.le_of_ble_eq_true (rfl : Nat.ble _ 1024 = true))) (by omega)) (by omega), by omega⟩) | (refine Nat.le_trans (Nat.mul_le_mul_left _ (Nat.le_of_ble_eq_true (rfl : Nat.ble _ 1024 = true))) ?_; omega) | (unfold inI64; omega) | (constructor <;> omega) | (simp only [inI64, List.length_cons, List.length_append, List.length_nil, List.length_set] at *; omega) | decide | (unfold inI64; decide)); conv => whnf)
      | omega | decide | assumption)
    obtain ⟨c0, hc0⟩ : ∃ c0, c0 = c := ⟨_, rfl⟩
    refine LoopX.rule hT (C := []) (ι := Int × Int × Hir × Nat) (fun (d, t, h, j) => (c0 ≤ d ∧ d ≤ c0 + 1 + 30 * j) ∧ (f ≤ t ∧ t ≤ f + 3000 * j) ∧ ((j : Int) ≤ k ∧ hiB (1 + j) h ∧ 1 ≤ h.legs.length))
      (fun (d, t, h, j) => mkSt [(0, .ptr 1000000 0), (6, .ptr 6 0), (8, .ptr 8 0), (10, .d (.int .i64 t)), (48, .d (.int .i64 k)), (49, .d (.int .i64 j))] [(1000000, strm n L d), (6, zcell), (8, hcell h)])
      (fun (_, _, _, j) => (k - j).toNat) (c, f, H0, 0) ⟨⟨by omega, by omega⟩, ⟨by omega, by omega⟩, ⟨by omega, hB, hBl⟩⟩ (by (refine Entails.mk' [(1000000, 1000000), (6, 6), (8, 8)] rfl rfl ?_ ?_ <;> repeat' (first | exact True.intro | exact SV.le_refl _ | exact Res.le_refl _ | exact SV.le_int (by omega) | exact SV.le_any _ | refine And.intro ?_ ?_)); done) ?_
    rintro ⟨d, t, h, j⟩ ⟨⟨r1', r2'⟩, ⟨r3, r4⟩, ⟨r5, r6, r7⟩⟩
    have r1' : c0 ≤ d := r1'
    have r2' : d ≤ c0 + 1 + 30 * j := r2'
    have r3 : f ≤ t := r3
    have r4 : t ≤ f + 3000 * j := r4
    have r5 : (j : Int) ≤ k := r5
    have r6 : hiB (1 + j) h := r6
    have r7 : 1 ≤ h.legs.length := r7
    have hj2 : j ≤ 2 := by omega
    conv => whnf
    repeat' (first
      | (refine CallX.of (s33 n L hL _ ?_ ?_ [1, 30, 100, 500] ?_ ?_) [(1000000, 1000000)] rfl ⟨SV.le_refl _, SV.le_lit rfl rfl, trivial⟩ ⟨Res.le_refl _, trivial⟩ rfl rfl ?_; rotate_right; rintro x rout ⟨⟨v1, hv1, rfl⟩, ⟨c, c1, c2, rfl⟩⟩; have hy1 := pkD hv1 (by decide); refine ⟨rfl, ?_⟩; conv => whnf)
      | (refine br_intro (fun hb => ?_) (fun hb => ?_) <;> (try simp only [decide_eq_true_eq, decide_eq_false_iff_not, Bool.not_eq_true', Bool.not_eq_false', Bool.and_eq_true, Bool.or_eq_true, beq_iff_eq, not_and, Int.not_le, Int.not_lt, Int.toNat_natCast, beq_eq_false_iff_ne, ne_eq, eq_self, not_true_eq_false, not_false_eq_true] at hb) <;> (conv => whnf))
      | (refine RegX.rule (id := 4) hT rfl [] [(0, []), (1, [0]), (2, [0, 1]), (4, [0, 1, 2]), (5, [0, 1, 2, 4]), (6, [0, 1, 2, 4, 5]), (8, [0, 1, 2, 4, 5, 6]), (9, [0, 1, 2, 4, 5, 6, 8]), (15, [0, 1, 2, 4, 5, 6, 8, 9]), (3, [0, 4, 5, 6, 8, 9, 15]), (7, [0, 4, 8, 9, 15]), (10, [0, 4, 15]), (11, [15]), (12, [15]), (13, [15]), (14, [15, 13]), (16, [14]), (17, [])] (by decide +kernel) ?_; conv => whnf)
      | (refine RegX.rule (id := 13) hT rfl [] [(0, []), (1, [0]), (2, [0, 1]), (3, [0, 1, 2]), (5, [0, 1, 2, 3]), (10, [0, 1, 2, 3, 5]), (4, [0, 1, 5, 10]), (6, [10]), (7, [10]), (8, [10]), (9, [10, 8]), (11, [9]), (12, [])] (by decide +kernel) ?_; conv => whnf)
      | (refine RegX.rule (id := 19) hT rfl [] [(0, []), (1, [0]), (2, [0, 1]), (8, [0, 1, 2]), (3, [0, 8]), (4, [8]), (5, [8]), (6, [8]), (7, [8, 6]), (9, [7]), (10, [])] (by decide +kernel) ?_; conv => whnf)
      | omega
      | (refine And.intro ?_ ?_; ((try dsimp only); first | omega | (refine ⟨by omega, by omega, Int.le_trans (Int.mul_le_mul_of_nonneg_right (Int.ofNat_le.2 (Nat.le_of_ble_eq_true (rfl : Nat.ble _ 1024 = true))) (by omega)) (by omega), by omega⟩) | (refine Nat.le_trans (Nat.mul_le_mul_left _ (Nat.le_of_ble_eq_true (rfl : Nat.ble _ 1024 = true))) ?_; omega) | (unfold inI64; omega) | (constructor <;> omega) | (simp only [inI64, List.length_cons, List.length_append, List.length_nil, List.length_set] at *; omega) | decide | (unfold inI64; decide)); conv => whnf)
      | omega | decide | assumption)
    · refine CallX.of (sRdg n L hL _ (by omega) (by omega) (t + v1) (by omega) (by omega)) [(1000000, 1000000)] rfl ⟨SV.le_refl _, SV.le_refl _, trivial⟩ ⟨Res.le_refl _, trivial⟩ rfl rfl ?_
      rintro x rout ⟨⟨ri, hri, rfl⟩, ⟨c3, c4, c5, rfl⟩⟩
      refine ⟨rfl, ?_⟩
      conv => whnf
      repeat' (first
        | (refine br_intro (fun hb => ?_) (fun hb => ?_) <;> (try simp only [decide_eq_true_eq, decide_eq_false_iff_not, Bool.not_eq_true', Bool.not_eq_false', Bool.and_eq_true, Bool.or_eq_true, beq_iff_eq, not_and, Int.not_le, Int.not_lt, Int.toNat_natCast, beq_eq_false_iff_ne, ne_eq, eq_self, not_true_eq_false, not_false_eq_true] at hb) <;> (conv => whnf))
        | (refine RegX.rule (id := 4) hT rfl [] [(0, []), (1, [0]), (2, [0, 1]), (4, [0, 1, 2]), (5, [0, 1, 2, 4]), (6, [0, 1, 2, 4, 5]), (8, [0, 1, 2, 4, 5, 6]), (9, [0, 1, 2, 4, 5, 6, 8]), (15, [0, 1, 2, 4, 5, 6, 8, 9]), (3, [0, 4, 5, 6, 8, 9, 15]), (7, [0, 4, 8, 9, 15]), (10, [0, 4, 15]), (11, [15]), (12, [15]), (13, [15]), (14, [15, 13]), (16, [14]), (17, [])] (by decide +kernel) ?_; conv => whnf)
        | (refine RegX.rule (id := 13) hT rfl [] [(0, []), (1, [0]), (2, [0, 1]), (3, [0, 1, 2]), (5, [0, 1, 2, 3]), (10, [0, 1, 2, 3, 5]), (4, [0, 1, 5, 10]), (6, [10]), (7, [10]), (8, [10]), (9, [10, 8]), (11, [9]), (12, [])] (by decide +kernel) ?_; conv => whnf)
        | (refine RegX.rule (id := 19) hT rfl [] [(0, []), (1, [0]), (2, [0, 1]), (8, [0, 1, 2]), (3, [0, 8]), (4, [8]), (5, [8]), (6, [8]), (7, [8, 6]), (9, [7]), (10, [])] (by decide +kernel) ?_; conv => whnf)
        | omega
        | (refine And.intro ?_ ?_; ((try dsimp only); first | omega | (refine ⟨by omega, by omega, Int.le_trans (Int.mul_le_mul_of_nonneg_right (Int.ofNat_le.2 (Nat.le_of_ble_eq_true (rfl : Nat.ble _ 1024 = true))) (by omega)) (by omega), by omega⟩) | (refine Nat.le_trans (Nat.mul_le_mul_left _ (Nat.le_of_ble_eq_true (rfl : Nat.ble _ 1024 = true))) ?_; omega) | (unfold inI64; omega) | (constructor <;> omega) | (simp only [inI64, List.length_cons, List.length_append, List.length_nil, List.length_set] at *; omega) | decide | (unfold inI64; decide)); conv => whnf)
        | omega | decide | assumption)
      refine CallX.of (sRdg n L hL _ (by omega) (by omega) (t + v1) (by omega) (by omega)) [(1000000, 1000000)] rfl ⟨SV.le_refl _, SV.le_refl _, trivial⟩ ⟨Res.le_refl _, trivial⟩ rfl rfl ?_
      rintro x rout ⟨⟨ro, hro, rfl⟩, ⟨c6, c7, c8, rfl⟩⟩
      refine ⟨rfl, ?_⟩
      conv => whnf
      repeat' (first
        | (refine CallX.of (s15 n L hL _ ?_ ?_ [[118, 49], [118, 50], [118, 51], [118, 52]] (by simp) (by simp)) [(1000000, 1000000)] rfl ⟨SV.le_refl _, SV.le_lit rfl rfl, trivial⟩ ⟨Res.le_refl _, trivial⟩ rfl rfl ?_; rotate_right; rintro x rout ⟨⟨v2, hv2, rfl⟩, ⟨c, c1, c2, rfl⟩⟩; have hy2 := mem_len hv2 rfl; refine ⟨rfl, ?_⟩; conv => whnf)
        | (refine CallX.of (z214 (1 + j) (by omega) h r6 ri { ro with st := ri.st } v2 hri hri hy2) [] rfl ⟨SV.le_refl _, SV.le_refl _, SV.le_refl _, SV.le_refl _, trivial⟩ trivial rfl rfl ?_; rintro x rout ⟨⟨h5, e5, hb5, hl5, rfl⟩, rfl⟩; refine ⟨rfl, ?_⟩; conv => whnf)
        | (refine br_intro (fun hb => ?_) (fun hb => ?_) <;> (try simp only [decide_eq_true_eq, decide_eq_false_iff_not, Bool.not_eq_true', Bool.not_eq_false', Bool.and_eq_true, Bool.or_eq_true, beq_iff_eq, not_and, Int.not_le, Int.not_lt, Int.toNat_natCast, beq_eq_false_iff_ne, ne_eq, eq_self, not_true_eq_false, not_false_eq_true] at hb) <;> (conv => whnf))
        | (refine RegX.rule (id := 4) hT rfl [] [(0, []), (1, [0]), (2, [0, 1]), (4, [0, 1, 2]), (5, [0, 1, 2, 4]), (6, [0, 1, 2, 4, 5]), (8, [0, 1, 2, 4, 5, 6]), (9, [0, 1, 2, 4, 5, 6, 8]), (15, [0, 1, 2, 4, 5, 6, 8, 9]), (3, [0, 4, 5, 6, 8, 9, 15]), (7, [0, 4, 8, 9, 15]), (10, [0, 4, 15]), (11, [15]), (12, [15]), (13, [15]), (14, [15, 13]), (16, [14]), (17, [])] (by decide +kernel) ?_; conv => whnf)
        | (refine RegX.rule (id := 13) hT rfl [] [(0, []), (1, [0]), (2, [0, 1]), (3, [0, 1, 2]), (5, [0, 1, 2, 3]), (10, [0, 1, 2, 3, 5]), (4, [0, 1, 5, 10]), (6, [10]), (7, [10]), (8, [10]), (9, [10, 8]), (11, [9]), (12, [])] (by decide +kernel) ?_; conv => whnf)
        | (refine RegX.rule (id := 19) hT rfl [] [(0, []), (1, [0]), (2, [0, 1]), (8, [0, 1, 2]), (3, [0, 8]), (4, [8]), (5, [8]), (6, [8]), (7, [8, 6]), (9, [7]), (10, [])] (by decide +kernel) ?_; conv => whnf)
        | omega
        | (refine And.intro ?_ ?_; ((try dsimp only); first | omega | (refine ⟨by omega, by omega, Int.le_trans (Int.mul_le_mul_of_nonneg_right (Int.ofNat_le.2 (Nat.le_of_ble_eq_true (rfl : Nat.ble _ 1024 = true))) (by omega)) (by omega), by omega⟩) | (refine Nat.le_trans (Nat.mul_le_mul_left _ (Nat.le_of_ble_eq_true (rfl : Nat.ble _ 1024 = true))) ?_; omega) | (unfold inI64; omega) | (constructor <;> omega) | (simp only [inI64, List.length_cons, List.length_append, List.length_nil, List.length_set] at *; omega) | decide | (unfold inI64; decide)); conv => whnf)
        | omega | decide | assumption)
      · refine ⟨(_, t + v1, h5, j + 1), ⟨⟨by omega, ?_⟩, ⟨by omega, ?_⟩, ⟨by omega, hb5, hl5 (by omega)⟩⟩, (show (k - ((j + 1 : Nat) : Int)).toNat < (k - (j : Int)).toNat by omega), Entails.mk' [(1000000, 1000000), (6, 6), (8, 8)] rfl rfl ⟨SV.le_refl _, SV.le_refl _, SV.le_refl _, SV.le_refl _, SV.le_refl _, SV.le_refl _, trivial⟩ ⟨Res.le_refl _, Res.le_refl _, Res.le_refl _, trivial⟩⟩
        · show _ ≤ c0 + 1 + 30 * ((j + 1 : Nat) : Int)
          omega
        · show _ ≤ f + 3000 * ((j + 1 : Nat) : Int)
          omega
      · refine ⟨(_, t + v1, h, j + 1), ⟨⟨by omega, ?_⟩, ⟨by omega, ?_⟩, ⟨by omega, hiB_le r6 (by omega), r7⟩⟩, (show (k - ((j + 1 : Nat) : Int)).toNat < (k - (j : Int)).toNat by omega), Entails.mk' [(1000000, 1000000), (6, 6), (8, 8)] rfl rfl ⟨SV.le_refl _, SV.le_refl _, SV.le_refl _, SV.le_refl _, SV.le_refl _, SV.le_refl _, trivial⟩ ⟨Res.le_refl _, Res.le_refl _, Res.le_refl _, trivial⟩⟩
        · show _ ≤ c0 + 1 + 30 * ((j + 1 : Nat) : Int)
          omega
        · show _ ≤ f + 3000 * ((j + 1 : Nat) : Int)
          omega
    · have r6 : hiB 3 h := hiB_le r6 (by omega)
      repeat' (first
        | (refine CallX.of (s84 n L hL _ ?_ ?_ _ ?_) [(1000000, 1000000)] rfl ⟨SV.le_refl _, SV.le_refl _, trivial⟩ ⟨Res.le_refl _, trivial⟩ rfl rfl ?_; rotate_right; rintro x rout ⟨⟨w, rfl⟩, ⟨c, c1, c2, rfl⟩⟩; refine ⟨rfl, ?_⟩; conv => whnf)
        | (refine CallX.of (s33 n L hL _ ?_ ?_ [1, 50, 100, 1440, 1470, 1471, 1500, 3000] ?_ ?_) [(1000000, 1000000)] rfl ⟨SV.le_refl _, SV.le_lit rfl rfl, trivial⟩ ⟨Res.le_refl _, trivial⟩ rfl rfl ?_; rotate_right; rintro x rout ⟨⟨v1, hv1, rfl⟩, ⟨c, c1, c2, rfl⟩⟩; have hy1 := pkD hv1 (by decide); refine ⟨rfl, ?_⟩; conv => whnf)
        | (refine CallX.of (sRdg n L hL _ ?_ ?_ (t + v1) ?_ ?_) [(1000000, 1000000)] rfl ⟨SV.le_refl _, SV.le_refl _, trivial⟩ ⟨Res.le_refl _, trivial⟩ rfl rfl ?_; rotate_right; rintro x rout ⟨⟨ri, hri, rfl⟩, ⟨c9, c10, c11, rfl⟩⟩; refine ⟨rfl, ?_⟩; conv => whnf)
        | (refine CallX.of (z215 3 (by omega) h r6 ri hri) [] rfl ⟨SV.le_refl _, SV.le_refl _, trivial⟩ trivial rfl rfl ?_; rintro x rout ⟨⟨h5, e5, hb5, hl5, rfl⟩, rfl⟩; refine ⟨rfl, ?_⟩; conv => whnf)
        | (refine br_intro (fun hb => ?_) (fun hb => ?_) <;> (try simp only [decide_eq_true_eq, decide_eq_false_iff_not, Bool.not_eq_true', Bool.not_eq_false', Bool.and_eq_true, Bool.or_eq_true, beq_iff_eq, not_and, Int.not_le, Int.not_lt, Int.toNat_natCast, beq_eq_false_iff_ne, ne_eq, eq_self, not_true_eq_false, not_false_eq_true] at hb) <;> (conv => whnf))
        | (refine RegX.rule (id := 4) hT rfl [] [(0, []), (1, [0]), (2, [0, 1]), (4, [0, 1, 2]), (5, [0, 1, 2, 4]), (6, [0, 1, 2, 4, 5]), (8, [0, 1, 2, 4, 5, 6]), (9, [0, 1, 2, 4, 5, 6, 8]), (15, [0, 1, 2, 4, 5, 6, 8, 9]), (3, [0, 4, 5, 6, 8, 9, 15]), (7, [0, 4, 8, 9, 15]), (10, [0, 4, 15]), (11, [15]), (12, [15]), (13, [15]), (14, [15, 13]), (16, [14]), (17, [])] (by decide +kernel) ?_; conv => whnf)
        | (refine RegX.rule (id := 13) hT rfl [] [(0, []), (1, [0]), (2, [0, 1]), (3, [0, 1, 2]), (5, [0, 1, 2, 3]), (10, [0, 1, 2, 3, 5]), (4, [0, 1, 5, 10]), (6, [10]), (7, [10]), (8, [10]), (9, [10, 8]), (11, [9]), (12, [])] (by decide +kernel) ?_; conv => whnf)
        | (refine RegX.rule (id := 19) hT rfl [] [(0, []), (1, [0]), (2, [0, 1]), (8, [0, 1, 2]), (3, [0, 8]), (4, [8]), (5, [8]), (6, [8]), (7, [8, 6]), (9, [7]), (10, [])] (by decide +kernel) ?_; conv => whnf)
        | omega
        | (refine And.intro ?_ ?_; ((try dsimp only); first | omega | (refine ⟨by omega, by omega, Int.le_trans (Int.mul_le_mul_of_nonneg_right (Int.ofNat_le.2 (Nat.le_of_ble_eq_true (rfl : Nat.ble _ 1024 = true))) (by omega)) (by omega), by omega⟩) | (refine Nat.le_trans (Nat.mul_le_mul_left _ (Nat.le_of_ble_eq_true (rfl : Nat.ble _ 1024 = true))) ?_; omega) | (unfold inI64; omega) | (constructor <;> omega) | (simp only [inI64, List.length_cons, List.length_append, List.length_nil, List.length_set] at *; omega) | decide | (unfold inI64; decide)); conv => whnf)
        | omega | decide | assumption)
      all_goals first
        | (refine .ret _ ?_
           conv => whnf
           exact ⟨[(1000000, strm n L _)], ⟨⟨h, r6, fun _ => r7, rfl⟩, _, by omega, by omega, rfl⟩, Res.le_refl _, trivial⟩)
        | (refine .ret _ ?_
           conv => whnf
           exact ⟨[(1000000, strm n L _)], ⟨⟨h5, hb5, fun _ => hl5 (by omega), rfl⟩, _, by omega, by omega, rfl⟩, Res.le_refl _, trivial⟩)
end Go.Proofs.YtcjfniddeibbhaaGreatDoor
set_option maxRecDepth 20000
namespace Go.Proofs.YtcjfniddeibbhaaGreatDoor
open Go Go.Eng
-- Hire
set_option maxHeartbeats 4000000 in
theorem sHir (n : Nat) (L : Nat → Int) (hL : Rok n L) (a : Int) (h0 : 0 ≤ a) (ha : a ≤ 2^36) :
    FSpec Tryz.prog 70 [.ptr 1000000 0] [(1000000, strm n L a)] (fun y r => (∃ h : Hir, hiB 3 h ∧ y = .agg ((hiF h).map .d)) ∧ Moved n L a 500 r) := by
  refine spec_of hT (C := []) Tryz.func70 rfl Tryz.call70 rfl rfl rfl ?_
  conv => whnf
  repeat' (first
    | (refine CallX.of (s33 n L hL _ ?_ ?_ [0, 100, 1440] ?_ ?_) [(1000000, 1000000)] rfl ⟨SV.le_refl _, SV.le_lit rfl rfl, trivial⟩ ⟨Res.le_refl _, trivial⟩ rfl rfl ?_; rotate_right; rintro x rout ⟨⟨u1, hu1, rfl⟩, ⟨c, c1, c2, rfl⟩⟩; have hw1 := pkD hu1 (by decide); refine ⟨rfl, ?_⟩; conv => whnf)
    | (refine CallX.of (sRh n L hL _ ?_ ?_ [104, 49] (by decide) u1 hw1.1 ?_) [(1000000, 1000000)] rfl ⟨SV.le_refl _, SV.le_refl _, SV.le_refl _, trivial⟩ ⟨Res.le_refl _, trivial⟩ rfl rfl ?_; rotate_right; rintro x rout ⟨⟨h, hh, hhl, rfl⟩, ⟨c, c1, c2, rfl⟩⟩; refine ⟨rfl, ?_⟩; conv => whnf)
    | (refine CallX.of (s84 n L hL _ ?_ ?_ _ ?_) [(1000000, 1000000)] rfl ⟨SV.le_refl _, SV.le_refl _, trivial⟩ ⟨Res.le_refl _, trivial⟩ rfl rfl ?_; rotate_right; rintro x rout ⟨⟨w, rfl⟩, ⟨c, c1, c2, rfl⟩⟩; refine ⟨rfl, ?_⟩; conv => whnf)
    | (refine br_intro (fun hb => ?_) (fun hb => ?_) <;> (try simp only [decide_eq_true_eq, decide_eq_false_iff_not, Bool.not_eq_true', Bool.not_eq_false', Bool.and_eq_true, Bool.or_eq_true, beq_iff_eq, not_and, Int.not_le, Int.not_lt, Int.toNat_natCast, beq_eq_false_iff_ne, ne_eq, eq_self, not_true_eq_false, not_false_eq_true] at hb) <;> (conv => whnf))
    | (refine RegX.rule (id := 15) hT rfl [] [(0, []), (1, []), (2, [0, 1]), (3, [0, 1, 2]), (4, [0, 1, 2]), (5, [0, 1, 2]), (6, [0, 1]), (7, []), (8, [])] (by decide +kernel) ?_; conv => whnf)
    | (refine RegX.rule (id := 18) hT rfl [] [(0, []), (1, []), (2, [0, 1]), (3, [0, 1, 2]), (4, [0, 1, 2]), (5, [0, 1, 2]), (6, [0, 1]), (7, []), (8, [])] (by decide +kernel) ?_; conv => whnf)
    | (refine RegX.rule (id := 6) hT rfl [] [(0, []), (1, []), (2, [0, 1]), (3, [0, 1, 2]), (4, [0, 1, 2]), (5, [0, 1, 2]), (6, [0, 1]), (7, []), (8, [])] (by decide +kernel) ?_; conv => whnf)
    | omega
    | (refine And.intro ?_ ?_; ((try dsimp only); first | omega | (refine ⟨by omega, by omega, Int.le_trans (Int.mul_le_mul_of_nonneg_right (Int.ofNat_le.2 (Nat.le_of_ble_eq_true (rfl : Nat.ble _ 1024 = true))) (by omega)) (by omega), by omega⟩) | (refine Nat.le_trans (Nat.mul_le_mul_left _ (Nat.le_of_ble_eq_true (rfl : Nat.ble _ 1024 = true))) ?_; omega) | (unfold inI64; omega) | (constructor <;> omega) | (simp only [inI64, List.length_cons, List.length_append, List.length_nil, List.length_set] at *; omega) | decide | (unfold inI64; decide)); conv => whnf)
    | omega | decide | assumption)
  · refine .ret _ ?_
    conv => whnf
    exact ⟨[(1000000, strm n L _)], ⟨⟨h, hh, rfl⟩, _, by omega, by omega, rfl⟩, Res.le_refl _, trivial⟩
  have hn : 1 ≤ h.legs.length := hhl (by decide)
  have hl3 := hh.2.2.1
  refine CallX.of (z216 h.legs hn (by omega)) [(7, 30)] rfl ⟨SV.le_refl _, trivial⟩ trivial rfl rfl ?_
  rintro x rout ⟨rfl, rfl⟩
  refine ⟨rfl, ?_⟩
  conv => whnf
  repeat' (first
    | (refine CallX.of (s86 n L hL _ ?_ ?_ 6 ?_) [(1000000, 1000000)] rfl ⟨SV.le_refl _, SV.le_refl _, trivial⟩ ⟨Res.le_refl _, trivial⟩ rfl rfl ?_; rotate_right; rintro x rout ⟨⟨z, hz1, hz2, hz3, rfl⟩, ⟨c, c1, c2, rfl⟩⟩; refine ⟨rfl, ?_⟩; conv => whnf)
    | (refine br_intro (fun hb => ?_) (fun hb => ?_) <;> (try simp only [decide_eq_true_eq, decide_eq_false_iff_not, Bool.not_eq_true', Bool.not_eq_false', Bool.and_eq_true, Bool.or_eq_true, beq_iff_eq, not_and, Int.not_le, Int.not_lt, Int.toNat_natCast, beq_eq_false_iff_ne, ne_eq, eq_self, not_true_eq_false, not_false_eq_true] at hb) <;> (conv => whnf))
    | (refine RegX.rule (id := 15) hT rfl [] [(0, []), (1, []), (2, [0, 1]), (3, [0, 1, 2]), (4, [0, 1, 2]), (5, [0, 1, 2]), (6, [0, 1]), (7, []), (8, [])] (by decide +kernel) ?_; conv => whnf)
    | (refine RegX.rule (id := 18) hT rfl [] [(0, []), (1, []), (2, [0, 1]), (3, [0, 1, 2]), (4, [0, 1, 2]), (5, [0, 1, 2]), (6, [0, 1]), (7, []), (8, [])] (by decide +kernel) ?_; conv => whnf)
    | (refine RegX.rule (id := 6) hT rfl [] [(0, []), (1, []), (2, [0, 1]), (3, [0, 1, 2]), (4, [0, 1, 2]), (5, [0, 1, 2]), (6, [0, 1]), (7, []), (8, [])] (by decide +kernel) ?_; conv => whnf)
    | omega
    | (refine And.intro ?_ ?_; ((try dsimp only); first | omega | (refine ⟨by omega, by omega, Int.le_trans (Int.mul_le_mul_of_nonneg_right (Int.ofNat_le.2 (Nat.le_of_ble_eq_true (rfl : Nat.ble _ 1024 = true))) (by omega)) (by omega), by omega⟩) | (refine Nat.le_trans (Nat.mul_le_mul_left _ (Nat.le_of_ble_eq_true (rfl : Nat.ble _ 1024 = true))) ?_; omega) | (unfold inI64; omega) | (constructor <;> omega) | (simp only [inI64, List.length_cons, List.length_append, List.length_nil, List.length_set] at *; omega) | decide | (unfold inI64; decide)); conv => whnf)
    | omega | decide | assumption)
  · repeat' (first
      | (refine CallX.of (s15 n L hL _ ?_ ?_ [[104, 49], [], [65]] (by simp) (by simp)) [(1000000, 1000000)] rfl ⟨SV.le_refl _, SV.le_lit rfl rfl, trivial⟩ ⟨Res.le_refl _, trivial⟩ rfl rfl ?_; rotate_right; rintro x rout ⟨⟨u2, hu2, rfl⟩, ⟨c, c1, c2, rfl⟩⟩; have hw2 := mem_len hu2 rfl; refine ⟨rfl, ?_⟩; conv => whnf)
      | (refine CallX.of (s15 n L hL _ ?_ ?_ [[97, 110, 110], []] (by simp) (by simp)) [(1000000, 1000000)] rfl ⟨SV.le_refl _, SV.le_lit rfl rfl, trivial⟩ ⟨Res.le_refl _, trivial⟩ rfl rfl ?_; rotate_right; rintro x rout ⟨⟨u3, hu3, rfl⟩, ⟨c, c1, c2, rfl⟩⟩; have hw3 := mem_len hu3 rfl; refine ⟨rfl, ?_⟩; conv => whnf)
      | (refine br_intro (fun hb => ?_) (fun hb => ?_) <;> (try simp only [decide_eq_true_eq, decide_eq_false_iff_not, Bool.not_eq_true', Bool.not_eq_false', Bool.and_eq_true, Bool.or_eq_true, beq_iff_eq, not_and, Int.not_le, Int.not_lt, Int.toNat_natCast, beq_eq_false_iff_ne, ne_eq, eq_self, not_true_eq_false, not_false_eq_true] at hb) <;> (conv => whnf))
      | (refine RegX.rule (id := 15) hT rfl [] [(0, []), (1, []), (2, [0, 1]), (3, [0, 1, 2]), (4, [0, 1, 2]), (5, [0, 1, 2]), (6, [0, 1]), (7, []), (8, [])] (by decide +kernel) ?_; conv => whnf)
      | (refine RegX.rule (id := 18) hT rfl [] [(0, []), (1, []), (2, [0, 1]), (3, [0, 1, 2]), (4, [0, 1, 2]), (5, [0, 1, 2]), (6, [0, 1]), (7, []), (8, [])] (by decide +kernel) ?_; conv => whnf)
      | (refine RegX.rule (id := 6) hT rfl [] [(0, []), (1, []), (2, [0, 1]), (3, [0, 1, 2]), (4, [0, 1, 2]), (5, [0, 1, 2]), (6, [0, 1]), (7, []), (8, [])] (by decide +kernel) ?_; conv => whnf)
      | omega
      | (refine And.intro ?_ ?_; ((try dsimp only); first | omega | (refine ⟨by omega, by omega, Int.le_trans (Int.mul_le_mul_of_nonneg_right (Int.ofNat_le.2 (Nat.le_of_ble_eq_true (rfl : Nat.ble _ 1024 = true))) (by omega)) (by omega), by omega⟩) | (refine Nat.le_trans (Nat.mul_le_mul_left _ (Nat.le_of_ble_eq_true (rfl : Nat.ble _ 1024 = true))) ?_; omega) | (unfold inI64; omega) | (constructor <;> omega) | (simp only [inI64, List.length_cons, List.length_append, List.length_nil, List.length_set] at *; omega) | decide | (unfold inI64; decide)); conv => whnf)
      | omega | decide | assumption)
    refine .freeze _ 30 162 9 _ _ rfl (.ent _ _ (Entails.froCell 2 30 9 _ 4 _ rfl rfl rfl) (.weak _ ?_))
    conv => whnf
    exact ⟨_, [(1000000, strm n L _)], SV.le_refl _, ⟨⟨⟨u2, u3, h.frm, h.to, h.legs⟩, ⟨hw2, hw3, hl3, hh.2.2.2⟩, rfl⟩, _, by omega, by omega, rfl⟩, Res.le_refl _, trivial⟩
  · repeat' (first
      | (refine CallX.of (sTim n L hL _ ?_ ?_) [(1000000, 1000000)] rfl ⟨SV.le_refl _, trivial⟩ ⟨Res.le_refl _, trivial⟩ rfl rfl ?_; rotate_right; rintro x rout ⟨⟨t1, t2, rfl⟩, ⟨c3, c4, c5, rfl⟩⟩; refine ⟨rfl, ?_⟩; conv => whnf)
      | (refine br_intro (fun hb => ?_) (fun hb => ?_) <;> (try simp only [decide_eq_true_eq, decide_eq_false_iff_not, Bool.not_eq_true', Bool.not_eq_false', Bool.and_eq_true, Bool.or_eq_true, beq_iff_eq, not_and, Int.not_le, Int.not_lt, Int.toNat_natCast, beq_eq_false_iff_ne, ne_eq, eq_self, not_true_eq_false, not_false_eq_true] at hb) <;> (conv => whnf))
      | (refine RegX.rule (id := 15) hT rfl [] [(0, []), (1, []), (2, [0, 1]), (3, [0, 1, 2]), (4, [0, 1, 2]), (5, [0, 1, 2]), (6, [0, 1]), (7, []), (8, [])] (by decide +kernel) ?_; conv => whnf)
      | (refine RegX.rule (id := 18) hT rfl [] [(0, []), (1, []), (2, [0, 1]), (3, [0, 1, 2]), (4, [0, 1, 2]), (5, [0, 1, 2]), (6, [0, 1]), (7, []), (8, [])] (by decide +kernel) ?_; conv => whnf)
      | (refine RegX.rule (id := 6) hT rfl [] [(0, []), (1, []), (2, [0, 1]), (3, [0, 1, 2]), (4, [0, 1, 2]), (5, [0, 1, 2]), (6, [0, 1]), (7, []), (8, [])] (by decide +kernel) ?_; conv => whnf)
      | omega
      | (refine And.intro ?_ ?_; ((try dsimp only); first | omega | (refine ⟨by omega, by omega, Int.le_trans (Int.mul_le_mul_of_nonneg_right (Int.ofNat_le.2 (Nat.le_of_ble_eq_true (rfl : Nat.ble _ 1024 = true))) (by omega)) (by omega), by omega⟩) | (refine Nat.le_trans (Nat.mul_le_mul_left _ (Nat.le_of_ble_eq_true (rfl : Nat.ble _ 1024 = true))) ?_; omega) | (unfold inI64; omega) | (constructor <;> omega) | (simp only [inI64, List.length_cons, List.length_append, List.length_nil, List.length_set] at *; omega) | decide | (unfold inI64; decide)); conv => whnf)
      | omega | decide | assumption)
    refine .freeze _ 30 162 9 _ _ rfl (.ent _ _ (Entails.froCell 2 30 9 _ 4 _ rfl rfl rfl) (.weak _ ?_))
    conv => whnf
    exact ⟨_, [(1000000, strm n L _)], SV.le_refl _, ⟨⟨⟨h.key, h.drv, t1, t2, h.legs⟩, ⟨hh.1, hh.2.1, hl3, hh.2.2.2⟩, rfl⟩, _, by omega, by omega, rfl⟩, Res.le_refl _, trivial⟩
  · refine .weak _ ?_
    conv => whnf
    exact ⟨.agg ((hiF ⟨h.key, h.drv, h.frm, h.to, []⟩).map .d), [(1000000, strm n L _)], SV.le_agg ⟨SV.le_refl _, SV.le_refl _, SV.le_refl _, SV.le_refl _, SV.le_nilS, trivial⟩, ⟨⟨⟨h.key, h.drv, h.frm, h.to, []⟩, ⟨hh.1, hh.2.1, by simp, fun x hx => by cases hx⟩, rfl⟩, _, by omega, by omega, rfl⟩, Res.le_refl _, trivial⟩
  · repeat' (first
      | (refine CallX.of (s86 n L hL _ ?_ ?_ _ ?_) [(1000000, 1000000)] rfl ⟨SV.le_refl _, SV.le_refl _, trivial⟩ ⟨Res.le_refl _, trivial⟩ rfl rfl ?_; rotate_right; rintro x rout ⟨⟨j, hj1, hj2, hj3, rfl⟩, ⟨c, c1, c2, rfl⟩⟩; refine ⟨rfl, ?_⟩; conv => whnf)
      | (refine CallX.of (s15 n L hL _ ?_ ?_ [[118, 49], [], [65]] (by simp) (by simp)) [(1000000, 1000000)] rfl ⟨SV.le_refl _, SV.le_lit rfl rfl, trivial⟩ ⟨Res.le_refl _, trivial⟩ rfl rfl ?_; rotate_right; rintro x rout ⟨⟨u2, hu2, rfl⟩, ⟨c, c1, c2, rfl⟩⟩; have hw2 := mem_len hu2 rfl; refine ⟨rfl, ?_⟩; conv => whnf)
      | (refine CallX.of (s104 n L hL _ ?_ ?_ 0 500 ?_ ?_ ?_) [(1000000, 1000000)] rfl ⟨SV.le_refl _, SV.le_refl _, SV.le_refl _, trivial⟩ ⟨Res.le_refl _, trivial⟩ rfl rfl ?_; rotate_right; rintro x rout ⟨⟨u3, hk1, hk2, rfl⟩, ⟨c, c1, c2, rfl⟩⟩; refine ⟨rfl, ?_⟩; conv => whnf)
      | (refine br_intro (fun hb => ?_) (fun hb => ?_) <;> (try simp only [decide_eq_true_eq, decide_eq_false_iff_not, Bool.not_eq_true', Bool.not_eq_false', Bool.and_eq_true, Bool.or_eq_true, beq_iff_eq, not_and, Int.not_le, Int.not_lt, Int.toNat_natCast, beq_eq_false_iff_ne, ne_eq, eq_self, not_true_eq_false, not_false_eq_true] at hb) <;> (conv => whnf))
      | (refine RegX.rule (id := 15) hT rfl [] [(0, []), (1, []), (2, [0, 1]), (3, [0, 1, 2]), (4, [0, 1, 2]), (5, [0, 1, 2]), (6, [0, 1]), (7, []), (8, [])] (by decide +kernel) ?_; conv => whnf)
      | (refine RegX.rule (id := 18) hT rfl [] [(0, []), (1, []), (2, [0, 1]), (3, [0, 1, 2]), (4, [0, 1, 2]), (5, [0, 1, 2]), (6, [0, 1]), (7, []), (8, [])] (by decide +kernel) ?_; conv => whnf)
      | (refine RegX.rule (id := 6) hT rfl [] [(0, []), (1, []), (2, [0, 1]), (3, [0, 1, 2]), (4, [0, 1, 2]), (5, [0, 1, 2]), (6, [0, 1]), (7, []), (8, [])] (by decide +kernel) ?_; conv => whnf)
      | omega
      | (refine And.intro ?_ ?_; ((try dsimp only); first | omega | (refine ⟨by omega, by omega, Int.le_trans (Int.mul_le_mul_of_nonneg_right (Int.ofNat_le.2 (Nat.le_of_ble_eq_true (rfl : Nat.ble _ 1024 = true))) (by omega)) (by omega), by omega⟩) | (refine Nat.le_trans (Nat.mul_le_mul_left _ (Nat.le_of_ble_eq_true (rfl : Nat.ble _ 1024 = true))) ?_; omega) | (unfold inI64; omega) | (constructor <;> omega) | (simp only [inI64, List.length_cons, List.length_append, List.length_nil, List.length_set] at *; omega) | decide | (unfold inI64; decide)); conv => whnf)
      | omega | decide | assumption)
    refine .freeze _ 30 162 9 _ _ rfl (.ent _ _ (Entails.froCell 2 30 9 _ 4 _ rfl rfl rfl) (.weak _ ?_))
    conv => whnf
    exact ⟨.agg ((hiF ⟨h.key, h.drv, h.frm, h.to, updL (updL h.legs j.toNat lg0 (fun y => { y with veh := u2 })) j.toNat lg0 (fun y => { y with out := { y.out with tm := u3 } })⟩).map .d), [(1000000, strm n L _)],
      SV.le_agg ⟨SV.le_refl _, SV.le_refl _, SV.le_refl _, SV.le_refl _, SV.le_upd2 (f := lgF) (d := lg0) (fun y : Leg => { y with veh := u2 }) (fun y => { y with out := { y.out with tm := u3 } }) (fun _ => rfl) (fun _ => rfl), trivial⟩,
      ⟨⟨⟨h.key, h.drv, h.frm, h.to, updL (updL h.legs j.toNat lg0 (fun y => { y with veh := u2 })) j.toNat lg0 (fun y => { y with out := { y.out with tm := u3 } })⟩, ⟨hh.1, hh.2.1, (by simp; omega), (allK_upd (g := fun y : Leg => { y with out := { y.out with tm := u3 } }) (allK_upd (g := fun y : Leg => { y with veh := u2 }) (k := 3) ⟨hl3, hh.2.2.2⟩ (fun y hy => ⟨hw2, hy.2.1, hy.2.2⟩)) (fun y hy => ⟨hy.1, hy.2.1, hy.2.2⟩)).2⟩, rfl⟩, _, by omega, by omega, rfl⟩, Res.le_refl _, trivial⟩
  · repeat' (first
      | (refine CallX.of (s86 n L hL _ ?_ ?_ _ ?_) [(1000000, 1000000)] rfl ⟨SV.le_refl _, SV.le_refl _, trivial⟩ ⟨Res.le_refl _, trivial⟩ rfl rfl ?_; rotate_right; rintro x rout ⟨⟨j, hj1, hj2, hj3, rfl⟩, ⟨c, c1, c2, rfl⟩⟩; refine ⟨rfl, ?_⟩; conv => whnf)
      | (refine CallX.of (s33 n L hL _ ?_ ?_ [-1, 0, 100, 5000] ?_ ?_) [(1000000, 1000000)] rfl ⟨SV.le_refl _, SV.le_lit rfl rfl, trivial⟩ ⟨Res.le_refl _, trivial⟩ rfl rfl ?_; rotate_right; rintro x rout ⟨⟨u2, hu2, rfl⟩, ⟨c, c1, c2, rfl⟩⟩; have hw2 : -1 ≤ u2 ∧ u2 ≤ 5000 := (by simp at hu2; omega); refine ⟨rfl, ?_⟩; conv => whnf)
      | (refine CallX.of (sRdg n L hL _ ?_ ?_ u2 ?_ ?_) [(1000000, 1000000)] rfl ⟨SV.le_refl _, SV.le_refl _, trivial⟩ ⟨Res.le_refl _, trivial⟩ rfl rfl ?_; rotate_right; rintro x rout ⟨⟨ri, hri, rfl⟩, ⟨c3, c4, c5, rfl⟩⟩; refine ⟨rfl, ?_⟩; conv => whnf)
      | (refine br_intro (fun hb => ?_) (fun hb => ?_) <;> (try simp only [decide_eq_true_eq, decide_eq_false_iff_not, Bool.not_eq_true', Bool.not_eq_false', Bool.and_eq_true, Bool.or_eq_true, beq_iff_eq, not_and, Int.not_le, Int.not_lt, Int.toNat_natCast, beq_eq_false_iff_ne, ne_eq, eq_self, not_true_eq_false, not_false_eq_true] at hb) <;> (conv => whnf))
      | (refine RegX.rule (id := 15) hT rfl [] [(0, []), (1, []), (2, [0, 1]), (3, [0, 1, 2]), (4, [0, 1, 2]), (5, [0, 1, 2]), (6, [0, 1]), (7, []), (8, [])] (by decide +kernel) ?_; conv => whnf)
      | (refine RegX.rule (id := 18) hT rfl [] [(0, []), (1, []), (2, [0, 1]), (3, [0, 1, 2]), (4, [0, 1, 2]), (5, [0, 1, 2]), (6, [0, 1]), (7, []), (8, [])] (by decide +kernel) ?_; conv => whnf)
      | (refine RegX.rule (id := 6) hT rfl [] [(0, []), (1, []), (2, [0, 1]), (3, [0, 1, 2]), (4, [0, 1, 2]), (5, [0, 1, 2]), (6, [0, 1]), (7, []), (8, [])] (by decide +kernel) ?_; conv => whnf)
      | omega
      | (refine And.intro ?_ ?_; ((try dsimp only); first | omega | (refine ⟨by omega, by omega, Int.le_trans (Int.mul_le_mul_of_nonneg_right (Int.ofNat_le.2 (Nat.le_of_ble_eq_true (rfl : Nat.ble _ 1024 = true))) (by omega)) (by omega), by omega⟩) | (refine Nat.le_trans (Nat.mul_le_mul_left _ (Nat.le_of_ble_eq_true (rfl : Nat.ble _ 1024 = true))) ?_; omega) | (unfold inI64; omega) | (constructor <;> omega) | (simp only [inI64, List.length_cons, List.length_append, List.length_nil, List.length_set] at *; omega) | decide | (unfold inI64; decide)); conv => whnf)
      | omega | decide | assumption)
    refine .freeze _ 30 162 9 _ _ rfl (.ent _ _ (Entails.froCell 2 30 9 _ 4 _ rfl rfl rfl) (.weak _ ?_))
    conv => whnf
    exact ⟨.agg ((hiF ⟨h.key, h.drv, h.frm, h.to, updL h.legs j.toNat lg0 (fun y => { y with inn := ri })⟩).map .d), [(1000000, strm n L _)],
      SV.le_agg ⟨SV.le_refl _, SV.le_refl _, SV.le_refl _, SV.le_refl _, SV.le_ro (by simp) (fun i hi => rows_updG (f := lgF) (d := lg0) (fun _ _ => rfl) (fun y : Leg => { y with inn := ri }) (fun _ => rfl) i (by simpa using hi)), trivial⟩,
      ⟨⟨⟨h.key, h.drv, h.frm, h.to, updL h.legs j.toNat lg0 (fun y => { y with inn := ri })⟩, ⟨hh.1, hh.2.1, (by simp; omega), (allK_upd (g := fun y : Leg => { y with inn := ri }) (k := 3) ⟨hl3, hh.2.2.2⟩ (fun y hy => ⟨hy.1, hy.2.1, hri⟩)).2⟩, rfl⟩, _, by omega, by omega, rfl⟩, Res.le_refl _, trivial⟩
  · repeat' (first
      | (refine CallX.of (s86 n L hL _ ?_ ?_ _ ?_) [(1000000, 1000000)] rfl ⟨SV.le_refl _, SV.le_refl _, trivial⟩ ⟨Res.le_refl _, trivial⟩ rfl rfl ?_; rotate_right; rintro x rout ⟨⟨j, hj1, hj2, hj3, rfl⟩, ⟨c, c1, c2, rfl⟩⟩; refine ⟨rfl, ?_⟩; conv => whnf)
      | (refine CallX.of (s33 n L hL _ ?_ ?_ [0, 0, 1] ?_ ?_) [(1000000, 1000000)] rfl ⟨SV.le_refl _, SV.le_lit rfl rfl, trivial⟩ ⟨Res.le_refl _, trivial⟩ rfl rfl ?_; rotate_right; rintro x rout ⟨⟨u2, hu2, rfl⟩, ⟨c, c1, c2, rfl⟩⟩; refine ⟨rfl, ?_⟩; conv => whnf)
      | (refine br_intro (fun hb => ?_) (fun hb => ?_) <;> (try simp only [decide_eq_true_eq, decide_eq_false_iff_not, Bool.not_eq_true', Bool.not_eq_false', Bool.and_eq_true, Bool.or_eq_true, beq_iff_eq, not_and, Int.not_le, Int.not_lt, Int.toNat_natCast, beq_eq_false_iff_ne, ne_eq, eq_self, not_true_eq_false, not_false_eq_true] at hb) <;> (conv => whnf))
      | (refine RegX.rule (id := 15) hT rfl [] [(0, []), (1, []), (2, [0, 1]), (3, [0, 1, 2]), (4, [0, 1, 2]), (5, [0, 1, 2]), (6, [0, 1]), (7, []), (8, [])] (by decide +kernel) ?_; conv => whnf)
      | (refine RegX.rule (id := 18) hT rfl [] [(0, []), (1, []), (2, [0, 1]), (3, [0, 1, 2]), (4, [0, 1, 2]), (5, [0, 1, 2]), (6, [0, 1]), (7, []), (8, [])] (by decide +kernel) ?_; conv => whnf)
      | (refine RegX.rule (id := 6) hT rfl [] [(0, []), (1, []), (2, [0, 1]), (3, [0, 1, 2]), (4, [0, 1, 2]), (5, [0, 1, 2]), (6, [0, 1]), (7, []), (8, [])] (by decide +kernel) ?_; conv => whnf)
      | omega
      | (refine And.intro ?_ ?_; ((try dsimp only); first | omega | (refine ⟨by omega, by omega, Int.le_trans (Int.mul_le_mul_of_nonneg_right (Int.ofNat_le.2 (Nat.le_of_ble_eq_true (rfl : Nat.ble _ 1024 = true))) (by omega)) (by omega), by omega⟩) | (refine Nat.le_trans (Nat.mul_le_mul_left _ (Nat.le_of_ble_eq_true (rfl : Nat.ble _ 1024 = true))) ?_; omega) | (unfold inI64; omega) | (constructor <;> omega) | (simp only [inI64, List.length_cons, List.length_append, List.length_nil, List.length_set] at *; omega) | decide | (unfold inI64; decide)); conv => whnf)
      | omega | decide | assumption)
    refine .freeze _ 30 162 9 _ _ rfl (.ent _ _ (Entails.froCell 2 30 9 _ 4 _ rfl rfl rfl) (.weak _ ?_))
    conv => whnf
    exact ⟨.agg ((hiF ⟨h.key, h.drv, h.frm, h.to, updL h.legs j.toNat lg0 (fun y => { y with inn := ⟨-1, [], u2, 0⟩ })⟩).map .d), [(1000000, strm n L _)],
      SV.le_agg ⟨SV.le_refl _, SV.le_refl _, SV.le_refl _, SV.le_refl _, SV.le_ro (by simp) (fun i hi => rows_updG (f := lgF) (d := lg0) (fun _ _ => rfl) (fun y : Leg => { y with inn := ⟨-1, [], u2, 0⟩ }) (fun _ => rfl) i (by simpa using hi)), trivial⟩,
      ⟨⟨⟨h.key, h.drv, h.frm, h.to, updL h.legs j.toNat lg0 (fun y => { y with inn := ⟨-1, [], u2, 0⟩ })⟩, ⟨hh.1, hh.2.1, (by simp; omega), (allK_upd (g := fun y : Leg => { y with inn := ⟨-1, [], u2, 0⟩ }) (k := 3) ⟨hl3, hh.2.2.2⟩ (fun y hy => ⟨hy.1, hy.2.1, by simp [rgB]⟩)).2⟩, rfl⟩, _, by omega, by omega, rfl⟩, Res.le_refl _, trivial⟩
end Go.Proofs.YtcjfniddeibbhaaGreatDoor
set_option maxRecDepth 20000
namespace Go.Proofs.YtcjfniddeibbhaaGreatDoor
open Go Go.Eng
def k4 : List (List UInt8) := [[104, 49], [104, 50], [104, 51], [104, 52]]
-- Hires
set_option maxHeartbeats 4000000 in
theorem sHirs (n : Nat) (L : Nat → Int) (hL : Rok n L) (a : Int) (h0 : 0 ≤ a) (ha : a ≤ 2^35) (m : Int) (hm0 : 0 ≤ m) (hm : m ≤ 4) :
    FSpec Tryz.prog 11 [.ptr 1000000 0, .d (.int .i64 m)] [(1000000, strm n L a)] (fun y r => (∃ l : List Hir, allK (hiB 3) 5 l ∧ y = .d (hirs l)) ∧ Moved n L a 3000 r) := by
  refine spec_of hT (C := []) Tryz.func11 rfl Tryz.call11 rfl rfl rfl ?_
  conv => whnf
  repeat' (first
    | (refine And.intro (show (0 : Int) ≤ 0 ∧ 0 ≤ min m 4 ∧ min m 4 ≤ ((4 : Nat) : Int) from by omega) ?_; conv => whnf)
    | (refine br_intro (fun hb => ?_) (fun hb => ?_) <;> (try simp only [decide_eq_true_eq, decide_eq_false_iff_not, Bool.not_eq_true', Bool.not_eq_false', Bool.and_eq_true, Bool.or_eq_true, beq_iff_eq, not_and, Int.not_le, Int.not_lt, Int.toNat_natCast, beq_eq_false_iff_ne, ne_eq, eq_self, not_true_eq_false, not_false_eq_true] at hb) <;> (conv => whnf))
    | omega
    | (refine And.intro ?_ ?_; ((try dsimp only); first | omega | (refine ⟨by omega, by omega, Int.le_trans (Int.mul_le_mul_of_nonneg_right (Int.ofNat_le.2 (Nat.le_of_ble_eq_true (rfl : Nat.ble _ 1024 = true))) (by omega)) (by omega), by omega⟩) | (refine Nat.le_trans (Nat.mul_le_mul_left _ (Nat.le_of_ble_eq_true (rfl : Nat.ble _ 1024 = true))) ?_; omega) | (unfold inI64; omega) | (constructor <;> omega) | (simp only [inI64, List.length_cons, List.length_append, List.length_nil, List.length_set] at *; omega) | decide | (unfold inI64; decide)); conv => whnf)
    | omega | decide | assumption)
  refine LoopX.rule hT (C := []) (ι := Int × List Hir × Nat) (fun (b, l, i) => (a ≤ b ∧ b ≤ a + 500 * i ∧ (i : Int) ≤ m) ∧ allK (hiB 3) i l)
    (fun (b, l, i) => mkSt [(0, .ptr 1000000 0), (5, .buf 5), (11, .d (strs (k4.take m.toNat))), (12, .d (.int .i64 m)), (13, .d (.int .i64 i))] [(1000000, strm n L b), (5, seqB 130 5 hiF hi0 l)])
    (fun (_, _, i) => (m - i).toNat) (a, [], 0) ⟨⟨by simp, by simp, by simpa using hm0⟩, ⟨by simp, by simp⟩⟩ ?_ ?_
  · refine (Entails.nil 5 5 130 5 (rowF hiF hi0 []) rfl rfl (by decide)).trans (Entails.mk' [(1000000, 1000000), (5, 5)] rfl rfl ⟨SV.le_refl _, SV.le_refl _, ?_, SV.le_int (by first | omega | (show (((min m 4 - 0).toNat : Nat) : Int) = m; omega) | (show ((min m 4).toNat : Int) = m; omega)), SV.le_refl _, trivial⟩ ⟨Res.le_refl _, Res.le_refl _, trivial⟩)
    have h4 : (k4.take m.toNat).length = m.toNat := by rw [List.length_take]; show min m.toNat 4 = _; omega
    have hm4 : (min m 4 - 0).toNat = m.toNat := by omega
    refine SV.le_ro (by rw [h4]; first | exact hm4 | omega) (fun i hi => ?_)
    have hi : i < m.toNat := by first | omega | (rw [← hm4]; exact hi)
    have hk : rowF sF [] (k4.take m.toNat) i = rowF sF [] k4 i := by
      simp only [rowF]
      rw [List.getD_eq_getElem?_getD, List.getElem?_take_of_lt hi, ← List.getD_eq_getElem?_getD]
    rw [hk]
    have : i = 0 ∨ i = 1 ∨ i = 2 ∨ i = 3 := by omega
    rcases this with rfl | rfl | rfl | rfl <;> rfl
  rintro ⟨b, l, i⟩ ⟨⟨p1, p2, p3⟩, p4⟩
  have p1 : a ≤ b := p1
  have p2 : b ≤ a + 500 * i := p2
  have p3 : (i : Int) ≤ m := p3
  have p4 : allK (hiB 3) i l := p4
  have hl1 := p4.1
  have h4 : (k4.take m.toNat).length = m.toNat := by rw [List.length_take]; show min m.toNat 4 = _; omega
  have hkl : ((k4.take m.toNat).getD (i : Int).toNat []).length ≤ 8 := by
    by_cases q : (i : Int).toNat < (k4.take m.toNat).length
    · have := List.mem_of_mem_take (getD_mem (x := []) q)
      exact mem_len this rfl
    · rw [List.getD_eq_getElem?_getD, List.getElem?_eq_none (by omega)]; simp
  conv => whnf
  repeat' (first
    | (refine CallX.of (s33 n L hL _ ?_ ?_ [0, 50, 100, 100, 300, 1000] ?_ ?_) [(1000000, 1000000)] rfl ⟨SV.le_refl _, SV.le_lit rfl rfl, trivial⟩ ⟨Res.le_refl _, trivial⟩ rfl rfl ?_; rotate_right; rintro x rout ⟨⟨u1, hu1, rfl⟩, ⟨c, c1, c2, rfl⟩⟩; have hw1 := pkD hu1 (by decide); refine ⟨rfl, ?_⟩; conv => whnf)
    | (refine CallX.of (sRh n L hL _ ?_ ?_ ((k4.take m.toNat).getD (i : Int).toNat []) hkl u1 hw1.1 ?_) [(1000000, 1000000)] rfl ⟨SV.le_refl _, SV.le_refl _, SV.le_refl _, trivial⟩ ⟨Res.le_refl _, trivial⟩ rfl rfl ?_; rotate_right; rintro x rout ⟨⟨h, hh, hhl, rfl⟩, ⟨c, c1, c2, rfl⟩⟩; refine ⟨rfl, ?_⟩; conv => whnf)
    | (refine br_intro (fun hb => ?_) (fun hb => ?_) <;> (try simp only [decide_eq_true_eq, decide_eq_false_iff_not, Bool.not_eq_true', Bool.not_eq_false', Bool.and_eq_true, Bool.or_eq_true, beq_iff_eq, not_and, Int.not_le, Int.not_lt, Int.toNat_natCast, beq_eq_false_iff_ne, ne_eq, eq_self, not_true_eq_false, not_false_eq_true] at hb) <;> (conv => whnf))
    | omega
    | (refine And.intro ?_ ?_; ((try dsimp only); first | omega | (refine ⟨by omega, by omega, Int.le_trans (Int.mul_le_mul_of_nonneg_right (Int.ofNat_le.2 (Nat.le_of_ble_eq_true (rfl : Nat.ble _ 1024 = true))) (by omega)) (by omega), by omega⟩) | (refine Nat.le_trans (Nat.mul_le_mul_left _ (Nat.le_of_ble_eq_true (rfl : Nat.ble _ 1024 = true))) ?_; omega) | (unfold inI64; omega) | (constructor <;> omega) | (simp only [inI64, List.length_cons, List.length_append, List.length_nil, List.length_set] at *; omega) | decide | (unfold inI64; decide)); conv => whnf)
    | omega | decide | assumption)
  · refine ⟨(_, l ++ [h], i + 1), ⟨⟨by omega, ?_, by omega⟩, allK_snoc p4 (by omega) hh⟩, (show (m - ((i + 1 : Nat) : Int)).toNat < (m - (i : Int)).toNat by omega), Entails.mk' [(1000000, 1000000), (5, 25)] rfl rfl ⟨SV.le_refl _, SV.le_refl _, SV.le_refl _, SV.le_refl _, SV.le_refl _, trivial⟩ ⟨Res.le_refl _, Res.le_snocF rfl, trivial⟩⟩
    show _ ≤ a + 500 * ((i + 1 : Nat) : Int)
    omega
  repeat' (first
    | (refine CallX.of (s84 n L hL _ ?_ ?_ _ ?_) [(1000000, 1000000)] rfl ⟨SV.le_refl _, SV.le_refl _, trivial⟩ ⟨Res.le_refl _, trivial⟩ rfl rfl ?_; rotate_right; rintro x rout ⟨⟨w, rfl⟩, ⟨c, c1, c2, rfl⟩⟩; refine ⟨rfl, ?_⟩; conv => whnf)
    | (refine CallX.of (sHir n L hL _ ?_ ?_) [(1000000, 1000000)] rfl ⟨SV.le_refl _, trivial⟩ ⟨Res.le_refl _, trivial⟩ rfl rfl ?_; rotate_right; rintro x rout ⟨⟨h, hh, rfl⟩, ⟨c, c1, c2, rfl⟩⟩; refine ⟨rfl, ?_⟩; conv => whnf)
    | (refine br_intro (fun hb => ?_) (fun hb => ?_) <;> (try simp only [decide_eq_true_eq, decide_eq_false_iff_not, Bool.not_eq_true', Bool.not_eq_false', Bool.and_eq_true, Bool.or_eq_true, beq_iff_eq, not_and, Int.not_le, Int.not_lt, Int.toNat_natCast, beq_eq_false_iff_ne, ne_eq, eq_self, not_true_eq_false, not_false_eq_true] at hb) <;> (conv => whnf))
    | omega
    | (refine And.intro ?_ ?_; ((try dsimp only); first | omega | (refine ⟨by omega, by omega, Int.le_trans (Int.mul_le_mul_of_nonneg_right (Int.ofNat_le.2 (Nat.le_of_ble_eq_true (rfl : Nat.ble _ 1024 = true))) (by omega)) (by omega), by omega⟩) | (refine Nat.le_trans (Nat.mul_le_mul_left _ (Nat.le_of_ble_eq_true (rfl : Nat.ble _ 1024 = true))) ?_; omega) | (unfold inI64; omega) | (constructor <;> omega) | (simp only [inI64, List.length_cons, List.length_append, List.length_nil, List.length_set] at *; omega) | decide | (unfold inI64; decide)); conv => whnf)
    | omega | decide | assumption)
  · refine .freeze _ 33 130 5 _ _ rfl (.weak _ ?_)
    conv => whnf
    exact ⟨_, [(1000000, strm n L _)], SV.le_snocF rfl, ⟨⟨l ++ [h], allK_snoc (allK_le p4 (by omega : i ≤ 4)) (by omega) hh, rfl⟩, _, by omega, by omega, rfl⟩, Res.le_refl _, trivial⟩
  · refine .freeze _ 5 130 5 _ _ rfl (.weak _ ?_)
    conv => whnf
    exact ⟨_, [(1000000, strm n L _)], SV.le_refl _, ⟨⟨l, allK_le p4 (by omega), rfl⟩, _, by omega, by omega, rfl⟩, Res.le_refl _, trivial⟩
end Go.Proofs.YtcjfniddeibbhaaGreatDoor
set_option maxRecDepth 20000
namespace Go.Proofs.YtcjfniddeibbhaaGreatDoor
open Go Go.Eng
abbrev shB (l : List Pair) : Res := seqB 74 2 pF ([], 0) l
def K0 (ps : List Pair) : List Pair := ([], 0) :: ps.map fun p => (p.1, 0)
def W0 (ps : List Pair) : List Int := 0 :: ps.map (·.2)
theorem K0_snoc (ps : List Pair) (k : List UInt8) (n : Int) : K0 (ps ++ [(k, n)]) = K0 ps ++ [(k, 0)] := by simp [K0]
theorem W0_snoc (ps : List Pair) (k : List UInt8) (n : Int) : W0 (ps ++ [(k, n)]) = W0 ps ++ [n] := by simp [W0]
theorem K0_len (ps : List Pair) : (K0 ps).length = ps.length + 1 := by simp [K0]
theorem W0_len (ps : List Pair) : (W0 ps).length = ps.length + 1 := by simp [W0]
theorem W0_sum (ps : List Pair) : (W0 ps).sum = (ps.map (·.2)).sum := by simp [W0]
theorem prts_mem {v : List UInt8} {a b : Int} {l : List Hir} {p : Pair} (h : p ∈ prts v a b l) : 0 < p.2 ∧ ∃ g ∈ l, p.1 = g.key := by
  unfold prts at h
  obtain ⟨h1, h2⟩ := List.mem_filter.1 h
  obtain ⟨g, hg, rfl⟩ := List.mem_map.1 h1
  exact ⟨by simpa using h2, g, hg, rfl⟩
theorem prts_len (v : List UInt8) (a b : Int) (l : List Hir) : (prts v a b l).length ≤ l.length := by
  unfold prts
  refine Nat.le_trans (List.length_filter_le _ _) ?_
  simp
theorem hadA_len {v : List UInt8} {a b : Int} {l : List Hir} (hl : ∀ h ∈ l, h.legs.length ≤ 3) : ∀ i, i ≤ l.length → (hadA v a b l i).length ≤ 3 * i := by
  intro i
  induction i with
  | zero => intro _; simp [hadA]
  | succ i ih =>
    intro hi
    rw [hadA_succ (by omega), List.length_append]
    have := ih (by omega)
    have h2 := (hadN_ok v a b (l.getD i hi0).legs (l.getD i hi0).legs.length).1
    have h3 := hl (l.getD i hi0) (getD_mem (by omega))
    unfold hadH
    omega
theorem hadA_in (v : List UInt8) (a b : Int) (l : List Hir) (i : Nat) : inW a b (hadA v a b l i) := fun x hx => by
  unfold hadA at hx
  obtain ⟨h, _, hh⟩ := List.mem_flatMap.1 hx
  exact (hadN_ok v a b h.legs h.legs.length).2 x hh
theorem hadA_sum (v : List UInt8) (a b : Int) (l : List Hir) (i : Nat) : wlen (hadA v a b l i) = (W0 (prts v a b (l.take i))).sum := by
  unfold hadA
  rw [hadA_wlen, W0_sum, prts_sum]
theorem mkS_eq {c : Int} {ws Q : List Pair} (h1 : Q.length = ws.length) (hl : (splitG c (ws.map (·.2))).length = ws.length) (h2 : ∀ j, j < ws.length → (Q.getD j ([], 0)).1 = (ws.getD j ([], 0)).1)
    (h3 : ∀ j, j < ws.length → (Q.getD j ([], 0)).2 = (splitG c (ws.map (·.2))).getD j 0) : Q = mkS c ws := by
  unfold mkS
  refine eq_of_getD ([], 0) (by simp [h1, hl]) (fun j hj => ?_)
  have hj' : j < ws.length := by omega
  have e : (List.zipWith (fun (p : Pair) (x : Int) => ((p.1, x) : Pair)) ws (splitG c (ws.map (·.2)))).getD j ([], 0) = ((ws.getD j ([], 0)).1, (splitG c (ws.map (·.2))).getD j 0) := by
    rw [List.getD_eq_getElem?_getD, List.getElem?_zipWith, List.getElem?_eq_getElem hj', List.getElem?_eq_getElem (by omega : j < (splitG c (ws.map (·.2))).length), List.getD_eq_getElem?_getD, List.getD_eq_getElem?_getD, List.getElem?_eq_getElem hj', List.getElem?_eq_getElem (by omega : j < (splitG c (ws.map (·.2))).length)]
    rfl
  rw [e, ← h2 j hj', ← h3 j hj']
theorem K0_get (P : List Pair) (j : Nat) (x : Int) : ((K0 P).getD j ([], 0)).1 = ((([], x) :: P : List Pair).getD j ([], 0)).1 := by
  unfold K0
  cases j with
  | zero => rfl
  | succ j =>
    rw [List.getD_cons_succ, List.getD_cons_succ, List.getD_eq_getElem?_getD, List.getElem?_map, List.getD_eq_getElem?_getD]
    cases P[j]? <;> rfl
theorem drop1_get (Q : List Pair) (j : Nat) : (Q.drop 1).getD j ([], 0) = Q.getD (1 + j) ([], 0) := by
  rw [List.getD_eq_getElem?_getD, List.getElem?_drop, ← List.getD_eq_getElem?_getD]
def blE0 (v : List UInt8) (a b : Int) (l : List Hir) : Int := firstE [if (!isKeyB v) = true then 5 else 0, winE a b, hirsE l]
open Classical in
noncomputable def blmF (v : List UInt8) (a b : Int) (l : List Hir) (c : Int) : List Pair × Int := if blE0 v a b l = 0 then blmE v a b l c else ([], blE0 v a b l)
def blPost (q : List Pair × Int) (y : SV) : Prop := y = .tup [.d (pairs q.1), .d (.int .i64 q.2)]
theorem firstE2_0 (x : Int) : firstE [x, 0] = x := by simp only [firstE]; grind
theorem firstE2_ne (x : Int) : firstE [x, 1] ≠ 0 := by simp only [firstE]; grind
theorem rows_drop1 {W : List Int} {o : Int} : ∀ i, i < (W.drop 1).length → (bif Nat.beq (1 + i) 0 then setAtD (rowF iF 0 W (1 + i)) 0 [.int .i64 o] else rowF iF 0 W (1 + i)) = rowF iF 0 (W.drop 1) i := by
  intro i hi
  rw [nbeq_ne (by omega : 1 + i ≠ 0)]
  simp only [cond_false, rowF]
  congr 1
  rw [List.getD_eq_getElem?_getD, List.getD_eq_getElem?_getD, List.getElem?_drop]
theorem getD_set_ne {α : Type} {l : List α} {i j : Nat} {x d : α} (h : i ≠ j) : (l.set i x).getD j d = l.getD j d := by
  rw [List.getD_eq_getElem?_getD, List.getElem?_set, if_neg h, List.getD_eq_getElem?_getD]
theorem getD_set_eq {α : Type} {l : List α} {i : Nat} {x d : α} (h : i < l.length) : (l.set i x).getD i d = x := by
  rw [List.getD_eq_getElem?_getD, List.getElem?_set]; simp [h]
theorem getD_set_fst {Q : List Pair} {j k : Nat} {x : Int} : ((Q.set j ((Q.getD j ([], 0)).1, x)).getD k ([], 0)).1 = (Q.getD k ([], 0)).1 := by
  by_cases h : j = k
  · subst h
    by_cases hj : j < Q.length
    · rw [getD_set_eq hj]
    · rw [List.set_eq_of_length_le (by omega)]
  · rw [getD_set_ne h]
theorem le_sum {l : List Int} (h : ∀ x ∈ l, 0 ≤ x) : ∀ x ∈ l, x ≤ l.sum := by
  induction l with
  | nil => intro x hx; cases hx
  | cons y l ih =>
    intro x hx
    have h1 := sum_nonneg fun z hz => h z (List.mem_cons_of_mem _ hz)
    rw [List.sum_cons]
    rcases List.mem_cons.1 hx with rfl | q
    · omega
    · have := ih (fun z hz => h z (List.mem_cons_of_mem _ hz)) x q
      have := h y (by simp)
      omega
theorem hirs_seq {l : List Hir} (h : hirsE l = 0) : (∀ g ∈ l, hirE g = 0) ∧ ∀ i, 0 < i → i < l.length → strLe (l.getD i hi0).key (l.getD (i - 1) hi0).key = false := by
  unfold hirsE at h
  split at h
  · omega
  have hall := firstAt_all h
  refine ⟨fun g hg => ?_, fun i h0 hi => ?_⟩
  · obtain ⟨i, hi, rfl⟩ := mem_getD (d := hi0) hg
    have := hall i hi
    unfold hirsE1 at this
    split at this
    · omega
    · rename_i q; exact Classical.not_not.1 q
  · have := hall i hi
    unfold hirsE1 at this
    split at this
    · omega
    · split at this
      · omega
      · rename_i q
        cases e : strLe (l.getD i hi0).key (l.getD (i - 1) hi0).key with
        | false => rfl
        | true => exact absurd ⟨h0, e⟩ q
set_option maxHeartbeats 8000000 in
theorem z33 (v : List UInt8) (hv : v.length ≤ 2^40) (a b : Int) (l : List Hir) (hl : allK (hiB 3) 5 l) (c : Int) :
    FSpec Tryz.prog 33 [.d (.str v), .agg [.d (.int .i64 a), .d (.int .i64 b)], .d (hirs l), .d (.int .i64 c)] []
      (fun y r => blPost (blmF v a b l c) y ∧ r = []) := by
  have hl5 := hl.1
  have hok : hiOk l := ⟨by omega, fun h hh => hiB_K (hl.2 h hh) (by omega)⟩
  have c1 := s108 v hv
  have c2 := z123 a b
  have c3 := z124 l hok
  obtain ⟨E, hE⟩ : ∃ E : Int, E = blE0 v a b l := ⟨_, rfl⟩
  have c4 := s105 [if (!isKeyB v) = true then 5 else 0, winE a b, hirsE l] (by simp)
  rw [show firstE [if (!isKeyB v) = true then 5 else 0, winE a b, hirsE l] = E from hE.symm] at c4
  refine spec_of hT (C := [42, 43]) Tryz.func33 rfl Tryz.call33 rfl rfl rfl ?_
  conv => whnf
  repeat' (first
    | (refine CallX.exact (c1) rfl rfl ?_; rotate_right; conv => whnf)
    | (refine CallX.exact (s107 _ _) rfl rfl ?_; rotate_right; conv => whnf)
    | (refine CallX.exact (c2) rfl rfl ?_; rotate_right; conv => whnf)
    | (refine CallX.exact (c3) rfl rfl ?_; rotate_right; conv => whnf)
    | (refine CallX.pure c4 ⟨SV.le_lit (by rfl) (by rfl), trivial⟩ rfl ?_; conv => whnf)
    | (refine br_intro (fun hb => ?_) (fun hb => ?_) <;> (try simp only [decide_eq_true_eq, decide_eq_false_iff_not, Bool.not_eq_true', Bool.not_eq_false', Bool.and_eq_true, Bool.or_eq_true, beq_iff_eq, not_and, Int.not_le, Int.not_lt, Int.toNat_natCast, beq_eq_false_iff_ne, ne_eq, eq_self, not_true_eq_false, not_false_eq_true] at hb) <;> (conv => whnf))
    | (refine RegX.rule (id := 1) hT rfl [] [(0, []), (4, [0]), (6, [0, 4]), (1, [4, 6]), (2, [4, 6]), (3, [4, 6]), (5, [6]), (7, []), (8, []), (9, []), (10, [])] (by decide +kernel) ?_; conv => whnf)
    | (refine RegX.rule (id := 25) hT rfl [] [(0, []), (1, []), (2, [0, 1]), (3, [0, 1]), (4, [2, 3]), (5, [])] (by decide +kernel) ?_; conv => whnf)
    | omega
    | (refine And.intro ?_ ?_; ((try dsimp only); first | omega | (refine ⟨by omega, by omega, Int.le_trans (Int.mul_le_mul_of_nonneg_right (Int.ofNat_le.2 (Nat.le_of_ble_eq_true (rfl : Nat.ble _ 1024 = true))) (by omega)) (by omega), by omega⟩) | (refine Nat.le_trans (Nat.mul_le_mul_left _ (Nat.le_of_ble_eq_true (rfl : Nat.ble _ 1024 = true))) ?_; omega) | (unfold inI64; omega) | (constructor <;> omega) | (simp only [inI64, List.length_cons, List.length_append, List.length_nil, List.length_set] at *; omega) | decide | (unfold inI64; decide)); conv => whnf)
    | omega | decide | assumption)
  · refine .weak _ ?_
    conv => whnf
    refine ⟨.tup [.d (pairs []), .d (.int .i64 E)], [], SV.le_tup ⟨SV.le_nilS, SV.le_refl _, trivial⟩, ⟨?_, rfl⟩, trivial⟩
    unfold blPost blmF
    rw [if_neg (by rw [← hE]; omega), ← hE]
  have hE0 : blE0 v a b l = 0 := by omega
  have hF : blmF v a b l c = blmE v a b l c := by unfold blmF; rw [if_pos hE0]
  have hw : winE a b = 0 := by
    unfold blE0 at hE0
    simp only [firstE] at hE0
    grind
  have hh0 : hirsE l = 0 := by
    unfold blE0 at hE0
    simp only [firstE] at hE0
    grind
  have hseq : ∀ g ∈ l, lgSeq g.legs := fun g hg => lgSeq_of ((hirs_seq hh0).1 g hg)
  have hab : (0 ≤ a ∧ a ≤ b) ∧ b ≤ 5761440 := by unfold winE at hw; grind
  obtain ⟨⟨ha0, hab⟩, hb0⟩ := hab
  have hl3 : ∀ h ∈ l, h.legs.length ≤ 3 := fun h hh => (hl.2 h hh).2.2.1
  rw [hF]
  repeat' (first
    | (refine br_intro (fun hb => ?_) (fun hb => ?_) <;> (try simp only [decide_eq_true_eq, decide_eq_false_iff_not, Bool.not_eq_true', Bool.not_eq_false', Bool.and_eq_true, Bool.or_eq_true, beq_iff_eq, not_and, Int.not_le, Int.not_lt, Int.toNat_natCast, beq_eq_false_iff_ne, ne_eq, eq_self, not_true_eq_false, not_false_eq_true] at hb) <;> (conv => whnf))
    | (refine RegX.rule (id := 1) hT rfl [] [(0, []), (4, [0]), (6, [0, 4]), (1, [4, 6]), (2, [4, 6]), (3, [4, 6]), (5, [6]), (7, []), (8, []), (9, []), (10, [])] (by decide +kernel) ?_; conv => whnf)
    | (refine RegX.rule (id := 25) hT rfl [] [(0, []), (1, []), (2, [0, 1]), (3, [0, 1]), (4, [2, 3]), (5, [])] (by decide +kernel) ?_; conv => whnf)
    | omega
    | (refine And.intro ?_ ?_; ((try dsimp only); first | omega | (refine ⟨by omega, by omega, Int.le_trans (Int.mul_le_mul_of_nonneg_right (Int.ofNat_le.2 (Nat.le_of_ble_eq_true (rfl : Nat.ble _ 1024 = true))) (by omega)) (by omega), by omega⟩) | (refine Nat.le_trans (Nat.mul_le_mul_left _ (Nat.le_of_ble_eq_true (rfl : Nat.ble _ 1024 = true))) ?_; omega) | (unfold inI64; omega) | (constructor <;> omega) | (simp only [inI64, List.length_cons, List.length_append, List.length_nil, List.length_set] at *; omega) | decide | (unfold inI64; decide)); conv => whnf)
    | omega | decide | assumption)
  refine LoopX.rule hT (C := [42, 43]) (ι := Nat) (fun i => (i ≤ l.length ∧ disjW (hadA v a b l i)) ∧ ∀ i', i' < i → ∀ j, j < (hadH v a b (l.getD i' hi0)).length → hitW (hadA v a b l i' ++ (hadH v a b (l.getD i' hi0)).take j) ((hadH v a b (l.getD i' hi0)).getD j vw0) = false)
    (fun i => mkSt [(0, .d (.str v)), (3, .d (.int .i64 c)), (5, .ptr 5 0), (11, .d (.int .i64 (b - a - (W0 (prts v a b (l.take i))).sum))), (12, .buf 12), (13, .buf 13), (14, .buf 14), (44, .d (hirs l)), (45, .d (.int .i64 l.length)), (46, .d (.int .i64 i))] [(5, vwC (a, b)), (12, vwB (hadA v a b l i)), (13, shB (K0 (prts v a b (l.take i)))), (14, seqB 3 1 iF 0 (W0 (prts v a b (l.take i))))])
    (fun i => l.length - i) 0 ⟨⟨by simp, List.Pairwise.nil⟩, fun i' h => by omega⟩ ?_ ?_
  · exact (Entails.nil 12 12 65 2 (rowF vwF vw0 []) rfl rfl (by decide)).trans (by (refine Entails.mk' [(5, 5), (12, 12), (13, 42), (14, 43)] rfl rfl ?_ ?_ <;> repeat' (first | exact True.intro | exact SV.le_refl _ | exact Res.le_refl _ | (exact SV.le_int (by simp [W0, prts])) | (exact Res.le_lit rfl rfl) | exact SV.le_int (by omega) | exact SV.le_any _ | refine And.intro ?_ ?_)); done)
  rintro i ⟨⟨p1, d1⟩, nh⟩
  have hsum := hadA_sum v a b l i
  have hin := hadA_in v a b l i
  have hm := disj_sum _ (hadA v a b l i) a b (Nat.le_refl _) d1 hin hab
  have hAl := hadA_len (v := v) (a := a) (b := b) hl3 i p1
  have hPl := prts_len v a b (l.take i)
  have hPl : (prts v a b (l.take i)).length ≤ i := by simp at hPl; omega
  have hs0 : 0 ≤ (W0 (prts v a b (l.take i))).sum := by
    rw [W0_sum, prts_sum]
    exact sum_nonneg fun x hx => by obtain ⟨h, _, rfl⟩ := List.mem_map.1 hx; exact hadS_nonneg v a b h
  have e1 : (i : Int).toNat = i := Int.toNat_natCast i
  by_cases hi : i < l.length
  · have hH : hiB 3 (l.getD (i : Int).toNat hi0) := hl.2 _ (getD_mem (by omega))
    have hHl := hH.2.2.1
    have c5 := z125 (l.getD (i : Int).toNat hi0) v a b (by omega)
    have hD0 := hadN_ok v a b (l.getD (i : Int).toNat hi0).legs (l.getD (i : Int).toNat hi0).legs.length
    have hA1 := hadA_succ (v := v) (a := a) (b := b) hi
    have hP1 := prts_take (v := v) (a := a) (b := b) hi
    have hcl := fun j hj hh => clash_of (v := v) (a := a) (b := b) hi (hseq _ (getD_mem hi)) (j := j) hj hh
    rw [← e1] at hA1 hP1 hcl
    simp only [Int.toNat_natCast] at hA1 hP1
    obtain ⟨D, hD⟩ : ∃ D, D = hadN v a b (l.getD (i : Int).toNat hi0).legs (l.getD (i : Int).toNat hi0).legs.length := ⟨_, rfl⟩
    have hDH : hadH v a b (l.getD i hi0) = D := by rw [hD, e1]; rfl
    have hDS : hadS v a b (l.getD i hi0) = wlen D := by unfold hadS; rw [hDH]
    rw [← hD] at c5 hD0
    obtain ⟨hD1, hD2⟩ := hD0
    have hD3 : D.length ≤ 3 := by omega
    conv => whnf
    repeat' (first
      | (refine CallX.exact (c5) rfl rfl ?_; rotate_right; conv => whnf)
      | (refine br_intro (fun hb => ?_) (fun hb => ?_) <;> (try simp only [decide_eq_true_eq, decide_eq_false_iff_not, Bool.not_eq_true', Bool.not_eq_false', Bool.and_eq_true, Bool.or_eq_true, beq_iff_eq, not_and, Int.not_le, Int.not_lt, Int.toNat_natCast, beq_eq_false_iff_ne, ne_eq, eq_self, not_true_eq_false, not_false_eq_true] at hb) <;> (conv => whnf))
      | (refine RegX.rule (id := 1) hT rfl [] [(0, []), (4, [0]), (6, [0, 4]), (1, [4, 6]), (2, [4, 6]), (3, [4, 6]), (5, [6]), (7, []), (8, []), (9, []), (10, [])] (by decide +kernel) ?_; conv => whnf)
      | (refine RegX.rule (id := 25) hT rfl [] [(0, []), (1, []), (2, [0, 1]), (3, [0, 1]), (4, [2, 3]), (5, [])] (by decide +kernel) ?_; conv => whnf)
      | omega
      | (refine And.intro ?_ ?_; ((try dsimp only); first | omega | (refine ⟨by omega, by omega, Int.le_trans (Int.mul_le_mul_of_nonneg_right (Int.ofNat_le.2 (Nat.le_of_ble_eq_true (rfl : Nat.ble _ 1024 = true))) (by omega)) (by omega), by omega⟩) | (refine Nat.le_trans (Nat.mul_le_mul_left _ (Nat.le_of_ble_eq_true (rfl : Nat.ble _ 1024 = true))) ?_; omega) | (unfold inI64; omega) | (constructor <;> omega) | (simp only [inI64, List.length_cons, List.length_append, List.length_nil, List.length_set] at *; omega) | decide | (unfold inI64; decide)); conv => whnf)
      | omega | decide | assumption)
    · refine LoopX.rule hT (C := [42, 43]) (ι := Nat) (fun j => (j ≤ D.length ∧ disjW (hadA v a b l i ++ D.take j)) ∧ ∀ j', j' < j → hitW (hadA v a b l i ++ D.take j') (D.getD j' vw0) = false)
        (fun j => mkSt [(0, .d (.str v)), (3, .d (.int .i64 c)), (5, .ptr 5 0), (11, .d (.int .i64 (b - a - (W0 (prts v a b (l.take i))).sum))), (12, .buf 12), (13, .buf 13), (14, .buf 14), (16, .ptr 16 0), (17, .d (.int .i64 (wlen (D.take j)))), (44, .d (hirs l)), (45, .d (.int .i64 l.length)), (46, .d (.int .i64 i)), (53, .d (wins D)), (54, .d (.int .i64 D.length)), (55, .d (.int .i64 j))] [(5, vwC (a, b)), (12, vwB (hadA v a b l i ++ D.take j)), (13, shB (K0 (prts v a b (l.take i)))), (14, seqB 3 1 iF 0 (W0 (prts v a b (l.take i)))), (16, hcell (l.getD (i : Int).toNat hi0))])
        (fun j => D.length - j) 0 ⟨⟨by omega, by simpa using d1⟩, fun j' h => by omega⟩ (by (refine Entails.mk' [(5, 5), (12, 12), (13, 13), (14, 14), (16, 16)] rfl rfl ?_ ?_ <;> repeat' (first | exact True.intro | exact SV.le_refl _ | exact Res.le_refl _ | (exact SV.le_int (by simp [wlen])) | (exact Res.le_buf (by simp) (fun i hi => by simp)) | exact SV.le_int (by omega) | exact SV.le_any _ | refine And.intro ?_ ?_)); done) ?_
      rintro j ⟨⟨q1, q3⟩, nj⟩
      have f1 : (j : Int).toNat = j := Int.toNat_natCast j
      have q4 : inW a b (hadA v a b l i ++ D.take j) := fun y hy => by
        rcases List.mem_append.1 hy with q | q
        · exact hin y q
        · exact hD2 y (List.mem_of_mem_take q)
      have hm' := disj_sum _ (hadA v a b l i ++ D.take j) a b (Nat.le_refl _) q3 q4 hab
      have hwa : wlen (hadA v a b l i ++ D.take j) = (W0 (prts v a b (l.take i))).sum + wlen (D.take j) := by rw [wlen_app, hsum]
      have hw0 : 0 ≤ wlen (D.take j) := by
        unfold wlen
        exact sum_nonneg fun x hx => by
          obtain ⟨y, hy, rfl⟩ := List.mem_map.1 hx
          have := hD2 y (List.mem_of_mem_take hy)
          omega
      have hlen0 : (hadA v a b l i ++ D.take j).length ≤ 20 := by rw [List.length_append, List.length_take]; omega
      have hlen : (hadA v a b l i ++ D.take j).length ≤ 2^40 := by omega
      by_cases hj : j < D.length
      · have hx := hD2 (D.getD (j : Int).toNat vw0) (getD_mem (by omega))
        obtain ⟨x1, x2, x3⟩ := hx
        have ht : D.take (j + 1) = D.take j ++ [D.getD (j : Int).toNat vw0] := by rw [f1]; exact take_snocD hj
        have c6 := z126 (D.getD (j : Int).toNat vw0) (hadA v a b l i ++ D.take j) hlen
        have hI1 : inI64 ((D.getD (j : Int).toNat vw0).2 - (D.getD (j : Int).toNat vw0).1) := by unfold inI64; omega
        have hI2 : inI64 (wlen (D.take j) + ((D.getD (j : Int).toNat vw0).2 - (D.getD (j : Int).toNat vw0).1)) := by unfold inI64; omega
        conv => whnf
        repeat' (first
          | (refine CallX.of c6 [(1000001, 12), (1000002, 19)] rfl ⟨SV.le_refl _, SV.le_refl _, trivial⟩ ⟨Res.le_refl _, Res.le_refl _, trivial⟩ rfl rfl ?_; rintro y rout ⟨rfl, rfl⟩; refine ⟨rfl, ?_⟩; conv => whnf)
          | (refine And.intro hI1 ?_; conv => whnf)
          | (refine And.intro hI2 ?_; conv => whnf)
          | (refine br_intro (fun hb => ?_) (fun hb => ?_) <;> (try simp only [decide_eq_true_eq, decide_eq_false_iff_not, Bool.not_eq_true', Bool.not_eq_false', Bool.and_eq_true, Bool.or_eq_true, beq_iff_eq, not_and, Int.not_le, Int.not_lt, Int.toNat_natCast, beq_eq_false_iff_ne, ne_eq, eq_self, not_true_eq_false, not_false_eq_true] at hb) <;> (conv => whnf))
          | (refine RegX.rule (id := 1) hT rfl [] [(0, []), (4, [0]), (6, [0, 4]), (1, [4, 6]), (2, [4, 6]), (3, [4, 6]), (5, [6]), (7, []), (8, []), (9, []), (10, [])] (by decide +kernel) ?_; conv => whnf)
          | (refine RegX.rule (id := 25) hT rfl [] [(0, []), (1, []), (2, [0, 1]), (3, [0, 1]), (4, [2, 3]), (5, [])] (by decide +kernel) ?_; conv => whnf)
          | omega
          | (refine And.intro ?_ ?_; ((try dsimp only); first | omega | (refine ⟨by omega, by omega, Int.le_trans (Int.mul_le_mul_of_nonneg_right (Int.ofNat_le.2 (Nat.le_of_ble_eq_true (rfl : Nat.ble _ 1024 = true))) (by omega)) (by omega), by omega⟩) | (refine Nat.le_trans (Nat.mul_le_mul_left _ (Nat.le_of_ble_eq_true (rfl : Nat.ble _ 1024 = true))) ?_; omega) | (unfold inI64; omega) | (constructor <;> omega) | (simp only [inI64, List.length_cons, List.length_append, List.length_nil, List.length_set] at *; omega) | decide | (unfold inI64; decide)); conv => whnf)
          | omega | decide | assumption)
        · refine .weak _ ?_
          conv => whnf
          refine ⟨.tup [.d (pairs []), .d (.int .i64 13)], [], SV.le_tup ⟨SV.le_nilS, SV.le_refl _, trivial⟩, ⟨?_, rfl⟩, trivial⟩
          have hc : clash v a b l := by
            refine clash_of (i := i) hi (hseq _ (getD_mem hi)) (j := j) (by rw [hDH]; exact hj) ?_
            rw [hDH]
            simpa [f1] using hb
          unfold blPost blmE
          rw [if_pos hc]
        · have hno : hitW (hadA v a b l i ++ D.take j) (D.getD (j : Int).toNat vw0) = false := by simpa using hb
          have hd := disj_snoc q3 (hitW_no hno)
          rw [List.append_assoc, ← ht] at hd
          refine ⟨j + 1, ⟨⟨by omega, hd⟩, fun j' hj' => ?_⟩, (show D.length - (j + 1) < D.length - j by omega), Entails.mk' [(5, 5), (12, 65), (13, 13), (14, 14), (16, 16)] rfl rfl ⟨SV.le_refl _, SV.le_refl _, SV.le_refl _, SV.le_refl _, SV.le_refl _, SV.le_refl _, SV.le_refl _, SV.le_refl _, SV.le_int ?_, SV.le_refl _, SV.le_refl _, SV.le_refl _, SV.le_refl _, SV.le_refl _, SV.le_int (by omega), trivial⟩ ⟨Res.le_refl _, ?_, Res.le_refl _, Res.le_refl _, Res.le_refl _, trivial⟩⟩
          · rcases Nat.lt_or_ge j' j with q | q
            · exact nj j' q
            · have : j' = j := by omega
              subst this
              rw [f1] at hno; exact hno
          · rw [ht, wlen_app, wlen_cons]; simp [wlen]
          · rw [ht, ← List.append_assoc]
            exact Res.le_snocF rfl
      · have hjD : j = D.length := by omega
        have hall : D.take j = D := by rw [hjD, List.take_length]
        have hnh : ∀ i', i' < i + 1 → ∀ j, j < (hadH v a b (l.getD i' hi0)).length → hitW (hadA v a b l i' ++ (hadH v a b (l.getD i' hi0)).take j) ((hadH v a b (l.getD i' hi0)).getD j vw0) = false := fun i' hi' k hk => by
          rcases Nat.lt_or_ge i' i with q | q
          · exact nh i' q k hk
          · have : i' = i := by omega
            subst this
            rw [hDH] at hk ⊢
            exact nj k (by omega)
        have hA2 : hadA v a b l (i + 1) = hadA v a b l i ++ D := by rw [hadA_succ hi, hDH]
        rw [hall] at q3 hwa hw0 hm' ⊢
        have hKl := K0_len (prts v a b (l.take i))
        have hWl := W0_len (prts v a b (l.take i))
        conv => whnf
        repeat' (first
          | (refine br_intro (fun hb => ?_) (fun hb => ?_) <;> (try simp only [decide_eq_true_eq, decide_eq_false_iff_not, Bool.not_eq_true', Bool.not_eq_false', Bool.and_eq_true, Bool.or_eq_true, beq_iff_eq, not_and, Int.not_le, Int.not_lt, Int.toNat_natCast, beq_eq_false_iff_ne, ne_eq, eq_self, not_true_eq_false, not_false_eq_true] at hb) <;> (conv => whnf))
          | (refine RegX.rule (id := 1) hT rfl [] [(0, []), (4, [0]), (6, [0, 4]), (1, [4, 6]), (2, [4, 6]), (3, [4, 6]), (5, [6]), (7, []), (8, []), (9, []), (10, [])] (by decide +kernel) ?_; conv => whnf)
          | (refine RegX.rule (id := 25) hT rfl [] [(0, []), (1, []), (2, [0, 1]), (3, [0, 1]), (4, [2, 3]), (5, [])] (by decide +kernel) ?_; conv => whnf)
          | omega
          | (refine And.intro ?_ ?_; ((try dsimp only); first | omega | (refine ⟨by omega, by omega, Int.le_trans (Int.mul_le_mul_of_nonneg_right (Int.ofNat_le.2 (Nat.le_of_ble_eq_true (rfl : Nat.ble _ 1024 = true))) (by omega)) (by omega), by omega⟩) | (refine Nat.le_trans (Nat.mul_le_mul_left _ (Nat.le_of_ble_eq_true (rfl : Nat.ble _ 1024 = true))) ?_; omega) | (unfold inI64; omega) | (constructor <;> omega) | (simp only [inI64, List.length_cons, List.length_append, List.length_nil, List.length_set] at *; omega) | decide | (unfold inI64; decide)); conv => whnf)
          | omega | decide | assumption)
        all_goals try (exfalso; omega)
        · have hP2 : prts v a b (l.take (i + 1)) = prts v a b (l.take i) ++ [((l.getD (i : Int).toNat hi0).key, wlen D)] := by
            rw [prts_take hi, hDS, if_pos (by omega), e1]
          refine ⟨i + 1, ⟨⟨by omega, by rw [hA2]; exact q3⟩, hnh⟩, (show l.length - (i + 1) < l.length - i by omega), ?_⟩
          rw [hA2, hP2, K0_snoc, W0_snoc]
          exact Entails.mk' [(5, 5), (12, 12), (13, 81), (14, 85)] rfl rfl ⟨SV.le_refl _, SV.le_refl _, SV.le_refl _, SV.le_int (by simp; omega), SV.le_refl _, SV.le_refl _, SV.le_refl _, SV.le_refl _, SV.le_refl _, SV.le_int (by omega), trivial⟩ ⟨Res.le_refl _, Res.le_refl _, Res.le_snocF rfl, Res.le_snocF rfl, trivial⟩
        · have hP2 : prts v a b (l.take (i + 1)) = prts v a b (l.take i) := by
            rw [prts_take hi, hDS, if_neg (by omega), List.append_nil]
          refine ⟨i + 1, ⟨⟨by omega, by rw [hA2]; exact q3⟩, hnh⟩, (show l.length - (i + 1) < l.length - i by omega), ?_⟩
          rw [hA2, hP2]
          exact (by (refine Entails.mk' [(5, 5), (12, 12), (13, 13), (14, 14)] rfl rfl ?_ ?_ <;> repeat' (first | exact True.intro | exact SV.le_refl _ | exact Res.le_refl _ | exact SV.le_int (by omega) | exact SV.le_any _ | refine And.intro ?_ ?_)); done)
  · have hil : i = l.length := by omega
    have hnc : ¬ clash v a b l := no_clash fun i' hi' => nh i' (by omega)
    have htk : l.take i = l := by rw [hil, List.take_length]
    rw [htk] at hsum hPl hs0 ⊢
    obtain ⟨P, hP⟩ : ∃ P, P = prts v a b l := ⟨_, rfl⟩
    have hPk : ∀ p ∈ P, p.1.length ≤ 8 ∧ 0 < p.2 := fun p hp => by
      rw [hP] at hp
      obtain ⟨q1, g, hg, q2⟩ := prts_mem hp
      rw [q2]; exact ⟨(hl.2 g hg).1, q1⟩
    have hoff : offi v a b l = b - a - (W0 P).sum := by unfold offi; rw [hP, W0_sum, prts_sum]
    rw [← hP] at hsum hPl hs0 ⊢
    have hWl := W0_len P
    have hKl := K0_len P
    have hWs := W0_sum P
    have hw1 : ∀ x ∈ W0 P, 0 ≤ x := fun x hx => by
      unfold W0 at hx
      rcases List.mem_cons.1 hx with q | q
      · omega
      · obtain ⟨p, hp, rfl⟩ := List.mem_map.1 q
        have := (hPk p hp).2; omega
    have hset : (W0 P).set 0 (b - a - (W0 P).sum) = (b - a - (W0 P).sum) :: P.map (·.2) := rfl
    have hW0s : ((W0 P).set 0 (b - a - (W0 P).sum)).sum = b - a := by rw [hset, List.sum_cons]; omega
    have hW0b : ∀ x ∈ (W0 P).set 0 (b - a - (W0 P).sum), 0 ≤ x ∧ x ≤ 5761440 := fun x hx => by
      have h0 : ∀ x ∈ (W0 P).set 0 (b - a - (W0 P).sum), 0 ≤ x := fun x hx => by
        rcases List.mem_or_eq_of_mem_set hx with q | q
        · exact hw1 x q
        · omega
      have := le_sum h0 x hx
      have := h0 x hx
      omega
    have hdrop : (W0 P).drop 1 = P.map (·.2) := rfl
    have hW1b : ∀ x ∈ P.map (·.2), 0 ≤ x ∧ x ≤ 5761440 := fun x hx => hW0b x (by rw [hset]; exact List.mem_cons_of_mem _ hx)
    have hOl : (K0 P).length ≤ 6 := by omega
    have hsub : SV.le (SV.sub 13 2 (1 : Int).toNat ((((K0 P).length : Nat) : Int) - 1).toNat) (SV.sub 13 2 1 ((K0 P).length - 1)) := by
      rw [show (1 : Int).toNat = 1 from rfl, show ((((K0 P).length : Nat) : Int) - 1).toNat = (K0 P).length - 1 by omega]; exact SV.le_refl _
    have hpos : b - a - (W0 P).sum = 0 → (K0 P).length ≤ 1 → a = b := fun q1 q2 => by
      have : P = [] := List.eq_nil_of_length_eq_zero (by omega)
      rw [this] at hWs q1
      simp at hWs
      rw [hWs] at q1; omega
    by_cases hc : 0 ≤ c ∧ c ≤ 1000000000
    · have c6 := s119 c 0 1000000000
      rw [decide_eq_true hc] at c6
      have s1 : a < b → FSpec Tryz.prog 98 [.d (.int .i64 c), .d (ints ((W0 P).set 0 (b - a - (W0 P).sum)))] [] (fun y r => y = .d (ints (splitG c ((W0 P).set 0 (b - a - (W0 P).sum)))) ∧ r = []) := fun q => s120 c _ hc hW0b (by simp; omega) (by omega) (left_bound c _ hc.1 (fun x hx => (hW0b x hx).1) (by omega))
      have hl1 : a < b → (splitG c ((W0 P).set 0 (b - a - (W0 P).sum))).length = P.length + 1 := fun q => by rw [splitG_eq c _ (left_bound c _ hc.1 (fun x hx => (hW0b x hx).1) (by omega)), rngL_length]; simp; omega
      have s2 : b - a - (W0 P).sum = 0 → a < b → FSpec Tryz.prog 98 [.d (.int .i64 c), .d (ints (P.map (·.2)))] [] (fun y r => y = .d (ints (splitG c (P.map (·.2)))) ∧ r = []) := fun p q =>
        s120 c (P.map (·.2)) hc hW1b (by simp; omega) (by omega) (left_bound c _ hc.1 (fun x hx => (hW1b x hx).1) (by omega))
      have hl2 : b - a - (W0 P).sum = 0 → a < b → (splitG c (P.map (·.2))).length = P.length := fun p q => by
        rw [splitG_eq c _ (left_bound c _ hc.1 (fun x hx => (hW1b x hx).1) (by omega)), rngL_length]; simp
      have hB : a < b → blmE v a b l c = (mkS c (wtsP v a b l), 0) := fun q => by
        unfold blmE
        rw [if_neg hnc, if_neg (by omega), if_neg (by omega)]
      have hw2 : b - a - (W0 P).sum = 0 → wtsP v a b l = P := fun q => by unfold wtsP; rw [hoff, if_neg (by omega), hP]
      have hw3 : 0 < b - a - (W0 P).sum → wtsP v a b l = ([], b - a - (W0 P).sum) :: P := fun q => by unfold wtsP; rw [hoff, if_pos q, hP]
      rw [hset] at s1 hl1
      generalize hG1 : splitG c ((b - a - (W0 P).sum) :: P.map (·.2)) = P1 at s1 hl1
      generalize hG2 : splitG c (P.map (·.2)) = P2 at s2 hl2
      conv => whnf
      repeat' (first
        | (refine CallX.exact (c6) rfl rfl ?_; rotate_right; conv => whnf)
        | (refine CallX.exact (s107 _ _) rfl rfl ?_; rotate_right; conv => whnf)
        | (refine CallX.pure (s105 [_, 0] (by simp)) ⟨SV.le_lit (by rfl) (by rfl), trivial⟩ rfl ?_; conv => whnf)
        | (refine CallX.freeze _ _ _ _ 14 3 1 _ _ rfl rfl ?_; (first | refine CallX.pure (s1 (by omega)) ⟨SV.le_refl _, SV.le_putF (fun _ _ => rfl), trivial⟩ rfl ?_ | refine CallX.pure (s2 (by omega) (by omega)) ⟨SV.le_refl _, SV.le_ro (by first | (simp; done) | (simp; omega)) (fun i hi => rows_drop1 (W := W0 P) i (by simp at hi ⊢; omega)), trivial⟩ rfl ?_); conv => whnf)
        | (refine br_intro (fun hb => ?_) (fun hb => ?_) <;> (try simp only [decide_eq_true_eq, decide_eq_false_iff_not, Bool.not_eq_true', Bool.not_eq_false', Bool.and_eq_true, Bool.or_eq_true, beq_iff_eq, not_and, Int.not_le, Int.not_lt, Int.toNat_natCast, beq_eq_false_iff_ne, ne_eq, eq_self, not_true_eq_false, not_false_eq_true] at hb) <;> (conv => whnf))
        | (refine RegX.rule (id := 1) hT rfl [] [(0, []), (4, [0]), (6, [0, 4]), (1, [4, 6]), (2, [4, 6]), (3, [4, 6]), (5, [6]), (7, []), (8, []), (9, []), (10, [])] (by decide +kernel) ?_; conv => whnf)
        | (refine RegX.rule (id := 25) hT rfl [] [(0, []), (1, []), (2, [0, 1]), (3, [0, 1]), (4, [2, 3]), (5, [])] (by decide +kernel) ?_; conv => whnf)
        | omega
        | (refine And.intro ?_ ?_; ((try dsimp only); first | omega | (refine ⟨by omega, by omega, Int.le_trans (Int.mul_le_mul_of_nonneg_right (Int.ofNat_le.2 (Nat.le_of_ble_eq_true (rfl : Nat.ble _ 1024 = true))) (by omega)) (by omega), by omega⟩) | (refine Nat.le_trans (Nat.mul_le_mul_left _ (Nat.le_of_ble_eq_true (rfl : Nat.ble _ 1024 = true))) ?_; omega) | (unfold inI64; omega) | (constructor <;> omega) | (simp only [inI64, List.length_cons, List.length_append, List.length_nil, List.length_set] at *; omega) | decide | (unfold inI64; decide)); conv => whnf)
        | omega | decide | assumption)
      all_goals try (exfalso; rw [firstE2_0] at *; simp at *; omega)
      all_goals first
        | (refine .weak _ ?_
           conv => whnf
           refine ⟨.tup [.d (pairs [([], c)]), .d (.int .i64 0)], [], SV.le_tup ⟨SV.le_lit rfl rfl, SV.le_refl _, trivial⟩, ⟨?_, rfl⟩, trivial⟩
           unfold blPost blmE
           rw [if_neg hnc, if_neg (by omega), if_pos (by omega)])
        | skip
      · have hlt : a < b := by omega
        have ho0 : b - a - (W0 P).sum = 0 := by omega
        have hlP := hl2 ho0 hlt
        refine LoopX.rule hT (C := [42, 43]) (ι := List Pair × Nat) (fun (Q, i) => (i ≤ P2.length ∧ Q.length = P.length + 1) ∧ (∀ j, j < i → (Q.getD (1 + j) ([], 0)).2 = P2.getD j 0) ∧ ∀ j, (Q.getD j ([], 0)).1 = ((K0 P).getD j ([], 0)).1)
          (fun (Q, i) => mkSt [(13, .sub 13 2 1 ((K0 P).length - 1)), (127, .d (ints P2)), (128, .d (.int .i64 P2.length)), (129, .d (.int .i64 i))] [(13, shB Q)]) (fun (_, i) => P2.length - i) (K0 P, 0) ⟨⟨by simp, hKl⟩, by simp, fun _ => rfl⟩ (by (refine Entails.mk' [(13, 13)] rfl rfl ?_ ?_ <;> repeat' (first | exact True.intro | exact SV.le_refl _ | exact Res.le_refl _ | (exact hsub) | exact SV.le_int (by omega) | exact SV.le_any _ | refine And.intro ?_ ?_)); done) ?_
        rintro ⟨Q, i⟩ ⟨⟨g1, g2⟩, g3, g4⟩
        have g1 : i ≤ P2.length := g1
        have g2 : Q.length = P.length + 1 := g2
        have e1 : (i : Int).toNat = i := Int.toNat_natCast i
        conv => whnf
        repeat' (first
          | (refine br_intro (fun hb => ?_) (fun hb => ?_) <;> (try simp only [decide_eq_true_eq, decide_eq_false_iff_not, Bool.not_eq_true', Bool.not_eq_false', Bool.and_eq_true, Bool.or_eq_true, beq_iff_eq, not_and, Int.not_le, Int.not_lt, Int.toNat_natCast, beq_eq_false_iff_ne, ne_eq, eq_self, not_true_eq_false, not_false_eq_true] at hb) <;> (conv => whnf))
          | (refine RegX.rule (id := 1) hT rfl [] [(0, []), (4, [0]), (6, [0, 4]), (1, [4, 6]), (2, [4, 6]), (3, [4, 6]), (5, [6]), (7, []), (8, []), (9, []), (10, [])] (by decide +kernel) ?_; conv => whnf)
          | (refine RegX.rule (id := 25) hT rfl [] [(0, []), (1, []), (2, [0, 1]), (3, [0, 1]), (4, [2, 3]), (5, [])] (by decide +kernel) ?_; conv => whnf)
          | omega
          | (refine And.intro ?_ ?_; ((try dsimp only); first | omega | (refine ⟨by omega, by omega, Int.le_trans (Int.mul_le_mul_of_nonneg_right (Int.ofNat_le.2 (Nat.le_of_ble_eq_true (rfl : Nat.ble _ 1024 = true))) (by omega)) (by omega), by omega⟩) | (refine Nat.le_trans (Nat.mul_le_mul_left _ (Nat.le_of_ble_eq_true (rfl : Nat.ble _ 1024 = true))) ?_; omega) | (unfold inI64; omega) | (constructor <;> omega) | (simp only [inI64, List.length_cons, List.length_append, List.length_nil, List.length_set] at *; omega) | decide | (unfold inI64; decide)); conv => whnf)
          | omega | decide | assumption)
        · refine ⟨(Q.set (1 + (i : Int).toNat) ((Q.getD (1 + (i : Int).toNat) ([], 0)).1, P2.getD (i : Int).toNat 0), i + 1), ⟨⟨by omega, by simpa using g2⟩, fun j hj => ?_, fun j => ?_⟩, (show P2.length - (i + 1) < P2.length - i by omega), Entails.mk' [(13, 13)] rfl rfl ⟨SV.le_refl _, SV.le_refl _, SV.le_refl _, SV.le_refl _, trivial⟩ ⟨Res.le_upd (f := pF) (fun p : Pair => (p.1, P2.getD (i : Int).toNat 0)) (fun _ => rfl), trivial⟩⟩
          · show ((Q.set (1 + (i : Int).toNat) _).getD (1 + j) ([], 0)).2 = _
            rw [e1]
            by_cases q : j = i
            · subst q; rw [getD_set_eq (by omega)]
            · rw [getD_set_ne (by omega)]; exact g3 j (by have : j < i + 1 := hj; omega)
          · exact getD_set_fst.trans (g4 j)
        · have hi : i = P2.length := by omega
          refine .freeze _ 13 74 2 _ _ rfl ?_
          refine .ent _ _ (Entails.froSub 8 13 2 1 ((K0 P).length - 1) _ _ rfl rfl) ?_
          refine .weak _ ?_
          conv => whnf
          refine ⟨.tup [.d (pairs (Q.drop 1)), .d (.int .i64 0)], [], SV.le_tup ⟨SV.le_drop (by simp [g2, hKl]), SV.le_refl _, trivial⟩, ⟨?_, rfl⟩, trivial⟩
          unfold blPost
          rw [hB hlt, hw2 ho0]
          have : Q.drop 1 = mkS c P := by
            refine mkS_eq (by simp; omega) (by rw [hG2]; exact hlP) (fun j hj => ?_) (fun j hj => ?_)
            · rw [drop1_get, g4, K0_get P _ 0, Nat.add_comm 1 j, List.getD_cons_succ]
            · rw [drop1_get, hG2]; exact g3 j (by omega)
          rw [this]
      all_goals
        have hlt : a < b := by omega
        have ho1 : 0 < b - a - (W0 P).sum := by
          have := hpos
          omega
        have hlP := hl1 hlt
        refine LoopX.rule hT (C := [42, 43]) (ι := List Pair × Nat) (fun (Q, i) => (i ≤ P1.length ∧ Q.length = P.length + 1) ∧ (∀ j, j < i → (Q.getD j ([], 0)).2 = P1.getD j 0) ∧ ∀ j, (Q.getD j ([], 0)).1 = ((K0 P).getD j ([], 0)).1)
          (fun (Q, i) => mkSt [(13, .buf 13), (127, .d (ints P1)), (128, .d (.int .i64 P1.length)), (129, .d (.int .i64 i))] [(13, shB Q)]) (fun (_, i) => P1.length - i) (K0 P, 0) ⟨⟨by simp, hKl⟩, by simp, fun _ => rfl⟩ (by (refine Entails.mk' [(13, 13)] rfl rfl ?_ ?_ <;> repeat' (first | exact True.intro | exact SV.le_refl _ | exact Res.le_refl _ | exact SV.le_int (by omega) | exact SV.le_any _ | refine And.intro ?_ ?_)); done) ?_
        rintro ⟨Q, i⟩ ⟨⟨g1, g2⟩, g3, g4⟩
        have g1 : i ≤ P1.length := g1
        have g2 : Q.length = P.length + 1 := g2
        have e1 : (i : Int).toNat = i := Int.toNat_natCast i
        conv => whnf
        repeat' (first
          | (refine br_intro (fun hb => ?_) (fun hb => ?_) <;> (try simp only [decide_eq_true_eq, decide_eq_false_iff_not, Bool.not_eq_true', Bool.not_eq_false', Bool.and_eq_true, Bool.or_eq_true, beq_iff_eq, not_and, Int.not_le, Int.not_lt, Int.toNat_natCast, beq_eq_false_iff_ne, ne_eq, eq_self, not_true_eq_false, not_false_eq_true] at hb) <;> (conv => whnf))
          | (refine RegX.rule (id := 1) hT rfl [] [(0, []), (4, [0]), (6, [0, 4]), (1, [4, 6]), (2, [4, 6]), (3, [4, 6]), (5, [6]), (7, []), (8, []), (9, []), (10, [])] (by decide +kernel) ?_; conv => whnf)
          | (refine RegX.rule (id := 25) hT rfl [] [(0, []), (1, []), (2, [0, 1]), (3, [0, 1]), (4, [2, 3]), (5, [])] (by decide +kernel) ?_; conv => whnf)
          | omega
          | (refine And.intro ?_ ?_; ((try dsimp only); first | omega | (refine ⟨by omega, by omega, Int.le_trans (Int.mul_le_mul_of_nonneg_right (Int.ofNat_le.2 (Nat.le_of_ble_eq_true (rfl : Nat.ble _ 1024 = true))) (by omega)) (by omega), by omega⟩) | (refine Nat.le_trans (Nat.mul_le_mul_left _ (Nat.le_of_ble_eq_true (rfl : Nat.ble _ 1024 = true))) ?_; omega) | (unfold inI64; omega) | (constructor <;> omega) | (simp only [inI64, List.length_cons, List.length_append, List.length_nil, List.length_set] at *; omega) | decide | (unfold inI64; decide)); conv => whnf)
          | omega | decide | assumption)
        · refine ⟨(Q.set (i : Int).toNat ((Q.getD (i : Int).toNat ([], 0)).1, P1.getD (i : Int).toNat 0), i + 1), ⟨⟨by omega, by simpa using g2⟩, fun j hj => ?_, fun j => ?_⟩, (show P1.length - (i + 1) < P1.length - i by omega), Entails.mk' [(13, 13)] rfl rfl ⟨SV.le_refl _, SV.le_refl _, SV.le_refl _, SV.le_refl _, trivial⟩ ⟨Res.le_upd (f := pF) (fun p : Pair => (p.1, P1.getD (i : Int).toNat 0)) (fun _ => rfl), trivial⟩⟩
          · show ((Q.set (i : Int).toNat _).getD j ([], 0)).2 = _
            rw [e1]
            by_cases q : j = i
            · subst q; rw [getD_set_eq (by omega)]
            · rw [getD_set_ne (by omega)]; exact g3 j (by have : j < i + 1 := hj; omega)
          · exact getD_set_fst.trans (g4 j)
        · have hi : i = P1.length := by omega
          refine .freeze _ 13 74 2 _ _ rfl (.weak _ ?_)
          conv => whnf
          refine ⟨.tup [.d (pairs Q), .d (.int .i64 0)], [], SV.le_tup ⟨SV.le_refl _, SV.le_refl _, trivial⟩, ⟨?_, rfl⟩, trivial⟩
          unfold blPost
          rw [hB hlt, hw3 ho1]
          have : Q = mkS c (([], b - a - (W0 P).sum) :: P) := by
            refine mkS_eq (by simpa using g2) (by rw [List.map_cons, hG1]; simpa using hlP) (fun j hj => ?_) (fun j hj => ?_)
            · rw [g4, K0_get P j (b - a - (W0 P).sum)]
            · rw [List.map_cons, hG1]; exact g3 j (by simp at hj; omega)
          rw [← this]
    · have c6 := s119 c 0 1000000000
      rw [decide_eq_false hc] at c6
      have hB : blmE v a b l c = ([], 1) := by
        unfold blmE
        rw [if_neg hnc, if_pos hc]
      conv => whnf
      repeat' (first
        | (refine CallX.exact (c6) rfl rfl ?_; rotate_right; conv => whnf)
        | (refine CallX.exact (s107 _ _) rfl rfl ?_; rotate_right; conv => whnf)
        | (refine CallX.pure (s105 [_, 1] (by simp)) ⟨SV.le_lit (by rfl) (by rfl), trivial⟩ rfl ?_; conv => whnf)
        | (refine br_intro (fun hb => ?_) (fun hb => ?_) <;> (try simp only [decide_eq_true_eq, decide_eq_false_iff_not, Bool.not_eq_true', Bool.not_eq_false', Bool.and_eq_true, Bool.or_eq_true, beq_iff_eq, not_and, Int.not_le, Int.not_lt, Int.toNat_natCast, beq_eq_false_iff_ne, ne_eq, eq_self, not_true_eq_false, not_false_eq_true] at hb) <;> (conv => whnf))
        | (refine RegX.rule (id := 1) hT rfl [] [(0, []), (4, [0]), (6, [0, 4]), (1, [4, 6]), (2, [4, 6]), (3, [4, 6]), (5, [6]), (7, []), (8, []), (9, []), (10, [])] (by decide +kernel) ?_; conv => whnf)
        | (refine RegX.rule (id := 25) hT rfl [] [(0, []), (1, []), (2, [0, 1]), (3, [0, 1]), (4, [2, 3]), (5, [])] (by decide +kernel) ?_; conv => whnf)
        | omega
        | (refine And.intro ?_ ?_; ((try dsimp only); first | omega | (refine ⟨by omega, by omega, Int.le_trans (Int.mul_le_mul_of_nonneg_right (Int.ofNat_le.2 (Nat.le_of_ble_eq_true (rfl : Nat.ble _ 1024 = true))) (by omega)) (by omega), by omega⟩) | (refine Nat.le_trans (Nat.mul_le_mul_left _ (Nat.le_of_ble_eq_true (rfl : Nat.ble _ 1024 = true))) ?_; omega) | (unfold inI64; omega) | (constructor <;> omega) | (simp only [inI64, List.length_cons, List.length_append, List.length_nil, List.length_set] at *; omega) | decide | (unfold inI64; decide)); conv => whnf)
        | omega | decide | assumption)
      all_goals first
        | (exfalso; exact firstE2_ne _ (by assumption))
        | (refine .weak _ ?_
           conv => whnf
           refine ⟨.tup [.d (pairs []), .d (.int .i64 _)], [], SV.le_tup ⟨SV.le_nilS, SV.le_refl _, trivial⟩, ⟨?_, rfl⟩, trivial⟩
           unfold blPost
           rw [hB]
           congr 4
           simp only [firstE]; grind)
end Go.Proofs.YtcjfniddeibbhaaGreatDoor
namespace Go.Proofs
open Go.Shelf
def Tryz.lays106_ren : Go.Shelf.Ren := ⟨fun | 106 => 106 | 213 => 171 | 265 => 238 | n => n, fun | 9 => 9 | 3 => 3 | n => n, fun | n => n⟩
theorem Tryz.lays106 : Go.Proofs.Lays.n106 Tryz.prog Tryz.lays106_ren := {
  mixed := by kernel_rfl
  f106 := Tryz.func106.trans (congrArg some (by kernel_rfl))
  f213 := Tryz.func171.trans (congrArg some (by kernel_rfl))
  f265 := Tryz.func238.trans (congrArg some (by kernel_rfl))
  t3 := Tryz.underlying3
  a3 := Tryz.isAgg3
  z3 := Tryz.sizeOf3
  v3 := Tryz.zeroValue3
  t9 := Tryz.underlying9
  a9 := Tryz.isAgg9
  z9 := Tryz.sizeOf9
  v9 := Tryz.zeroValue9 }
end Go.Proofs
set_option maxRecDepth 20000
namespace Go.Proofs.YtcjfniddeibbhaaGreatDoor
open Go Go.Eng Go.RowKit
-- mark.CheckRules
-- RulesFault
-- mark.order
theorem cmpB_S : ∀ (a b : List UInt8), Lib.compareBytes a b = cmpS a b := by
  intro a
  induction a with
  | nil => intro b; cases b <;> simp [Lib.compareBytes, cmpS, Op.bytesLess]
  | cons x a ih =>
    intro b
    cases b with
    | nil => simp [Lib.compareBytes, cmpS, Op.bytesLess]
    | cons y b =>
      have := ih b
      unfold cmpS at this ⊢
      simp only [Lib.compareBytes, Op.bytesLess]
      grind
-- strings.Compare
theorem s190 (a b : List UInt8) : FSpec Tryz.prog 106 [.d (.str a), .d (.str b)] [] (fun x r => x = .d (.int .i64 (cmpS a b)) ∧ r = []) := by
  refine FSpec.ofBelow Tryz.call106 (fun G β w vs _ hl hd => ?_)
  match vs, hl with
  | [u, v], _ =>
    have hu := hd 0 _ _ rfl rfl
    have hv := hd 1 _ _ rfl rfl
    cases hu with | d _ _ hu => cases hu with | str _ =>
    cases hv with | d _ _ hv => cases hv with | str _ =>
    refine ⟨.int .i64 (Lib.compareBytes a b), fun G β => ?_, (Go.Proofs.Any.strings_Compare Go.Proofs.Tryz.lays106 ⟨a.toArray⟩ ⟨b.toArray⟩ w).mono ?_⟩
    · rw [← cmpB_S]; exact .d _ _ (.int _ _)
    · rintro e w' ⟨he, rfl⟩
      exact ⟨he, Below.refl _ _⟩
end Go.Proofs.YtcjfniddeibbhaaGreatDoor
set_option maxRecDepth 20000
namespace Go.Proofs.YtcjfniddeibbhaaGreatDoor
open Go Go.Eng
-- Lasts
theorem z101 (x : Leg) : FSpec Tryz.prog 101 [.agg ((lgF x).map .d)] [] (fun y r => y = .agg [.d (.int .i64 x.out.tm), .d (.int .i64 (lastE x))] ∧ r = []) := by
  refine spec_of hT (C := []) Tryz.func101 rfl Tryz.call101 rfl rfl rfl ?_
  conv => whnf
  repeat' (first
    | (refine br_intro (fun hb => ?_) (fun hb => ?_) <;> (try simp only [decide_eq_true_eq, decide_eq_false_iff_not, Bool.not_eq_true', Bool.not_eq_false', Bool.and_eq_true, Bool.or_eq_true, beq_iff_eq, not_and, Int.not_le, Int.not_lt, Int.toNat_natCast, beq_eq_false_iff_ne, ne_eq, eq_self, not_true_eq_false, not_false_eq_true] at hb) <;> (conv => whnf))
    | omega
    | (refine And.intro ?_ ?_; ((try dsimp only); first | omega | (refine ⟨by omega, by omega, Int.le_trans (Int.mul_le_mul_of_nonneg_right (Int.ofNat_le.2 (Nat.le_of_ble_eq_true (rfl : Nat.ble _ 1024 = true))) (by omega)) (by omega), by omega⟩) | (refine Nat.le_trans (Nat.mul_le_mul_left _ (Nat.le_of_ble_eq_true (rfl : Nat.ble _ 1024 = true))) ?_; omega) | (unfold inI64; omega) | (constructor <;> omega) | (simp only [inI64, List.length_cons, List.length_append, List.length_nil, List.length_set] at *; omega) | decide | (unfold inI64; decide)); conv => whnf)
    | omega | decide | assumption)
  all_goals
    refine .ret _ ?_
    conv => whnf
    refine ⟨[], ⟨?_, rfl⟩, trivial⟩
    conv => lhs; whnf
    unfold lastE
    first
      | (rw [if_pos hb]; rfl)
      | (rw [if_neg hb]; rfl)
def withK (v : List UInt8) (l : List Hir) (t : Int) : List UInt8 × Bool := match l.find? (fun h => occ v h t) with | some h => (h.key, true) | none => ([], false)
theorem withK_no {v : List UInt8} {l : List Hir} {t : Int} (h : ∀ j, j < l.length → occ v (l.getD j hi0) t = false) : withK v l t = ([], false) := by
  unfold withK
  have : l.find? (fun h => occ v h t) = none := by
    rw [List.find?_eq_none]
    intro x hx
    obtain ⟨j, hj, rfl⟩ := mem_getD (d := hi0) hx
    rw [h j hj]; simp
  rw [this]
theorem withK_yes {v : List UInt8} {l : List Hir} {t : Int} : ∀ {i : Nat}, i < l.length → (∀ j, j < i → occ v (l.getD j hi0) t = false) → occ v (l.getD i hi0) t = true → withK v l t = ((l.getD i hi0).key, true) := by
  induction l with
  | nil => intro i hi; simp at hi
  | cons x l ih =>
    intro i hi h ho
    cases i with
    | zero =>
      rw [List.getD_cons_zero] at ho ⊢
      unfold withK
      rw [List.find?_cons_of_pos (by simpa using ho)]
    | succ i =>
      have h0 := h 0 (by omega)
      rw [List.getD_cons_zero] at h0
      have := ih (i := i) (by simpa using hi) (fun j hj => by have := h (j + 1) (by omega); rwa [List.getD_cons_succ] at this) (by simpa using ho)
      unfold withK at this ⊢
      rw [List.find?_cons_of_neg (by simp [h0])]
      simpa using this
theorem occK_mono {v : List UInt8} {ls : List Leg} {k : Nat} {t : Int} (hk : k < ls.length) (h : onL v (ls.getD k lg0) t = true) : (ls.any fun x => onL v x t) = true := by
  rw [List.any_eq_true]; exact ⟨_, getD_mem hk, h⟩
-- HireWith
set_option maxHeartbeats 2000000 in
theorem z103 (l : List Hir) (hl : l.length ≤ 2^40) (hs : ∀ h ∈ l, lgSeq h.legs) (hk : ∀ h ∈ l, h.legs.length ≤ 2^40) (v : List UInt8) (t : Int) :
    FSpec Tryz.prog 103 [.d (hirs l), .d (.str v), .d (.int .i64 t)] [] (fun y r => y = .tup [.d (.str (withK v l t).1), .d (.bool (withK v l t).2)] ∧ r = []) := by
  refine spec_of hT (C := []) Tryz.func103 rfl Tryz.call103 rfl rfl rfl ?_
  conv => whnf
  repeat' (first
    | (refine br_intro (fun hb => ?_) (fun hb => ?_) <;> (try simp only [decide_eq_true_eq, decide_eq_false_iff_not, Bool.not_eq_true', Bool.not_eq_false', Bool.and_eq_true, Bool.or_eq_true, beq_iff_eq, not_and, Int.not_le, Int.not_lt, Int.toNat_natCast, beq_eq_false_iff_ne, ne_eq, eq_self, not_true_eq_false, not_false_eq_true] at hb) <;> (conv => whnf))
    | omega
    | (refine And.intro ?_ ?_; ((try dsimp only); first | omega | (refine ⟨by omega, by omega, Int.le_trans (Int.mul_le_mul_of_nonneg_right (Int.ofNat_le.2 (Nat.le_of_ble_eq_true (rfl : Nat.ble _ 1024 = true))) (by omega)) (by omega), by omega⟩) | (refine Nat.le_trans (Nat.mul_le_mul_left _ (Nat.le_of_ble_eq_true (rfl : Nat.ble _ 1024 = true))) ?_; omega) | (unfold inI64; omega) | (constructor <;> omega) | (simp only [inI64, List.length_cons, List.length_append, List.length_nil, List.length_set] at *; omega) | decide | (unfold inI64; decide)); conv => whnf)
    | omega | decide | assumption)
  refine LoopX.rule hT (C := []) (ι := Nat) (fun i => i ≤ l.length ∧ ∀ j, j < i → occ v (l.getD j hi0) t = false) (fun i => mkSt [(1, .d (.str v)), (2, .d (.int .i64 t)), (13, .d (hirs l)), (14, .d (.int .i64 l.length)), (15, .d (.int .i64 i))] []) (fun i => l.length - i) 0 ⟨by omega, by omega⟩ (by (refine Entails.mk' [] rfl rfl ?_ ?_ <;> repeat' (first | exact True.intro | exact SV.le_refl _ | exact Res.le_refl _ | exact SV.le_int (by omega) | exact SV.le_any _ | refine And.intro ?_ ?_)); done) ?_
  rintro i ⟨p1, p2⟩
  have e1 : (i : Int).toNat = i := Int.toNat_natCast i
  by_cases hi : i < l.length
  · have hh : l.getD (i : Int).toNat hi0 ∈ l := getD_mem (by omega)
    have hsq := hs _ hh
    have hlk := hk _ hh
    conv => whnf
    repeat' (first
      | (refine br_intro (fun hb => ?_) (fun hb => ?_) <;> (try simp only [decide_eq_true_eq, decide_eq_false_iff_not, Bool.not_eq_true', Bool.not_eq_false', Bool.and_eq_true, Bool.or_eq_true, beq_iff_eq, not_and, Int.not_le, Int.not_lt, Int.toNat_natCast, beq_eq_false_iff_ne, ne_eq, eq_self, not_true_eq_false, not_false_eq_true] at hb) <;> (conv => whnf))
      | omega
      | (refine And.intro ?_ ?_; ((try dsimp only); first | omega | (refine ⟨by omega, by omega, Int.le_trans (Int.mul_le_mul_of_nonneg_right (Int.ofNat_le.2 (Nat.le_of_ble_eq_true (rfl : Nat.ble _ 1024 = true))) (by omega)) (by omega), by omega⟩) | (refine Nat.le_trans (Nat.mul_le_mul_left _ (Nat.le_of_ble_eq_true (rfl : Nat.ble _ 1024 = true))) ?_; omega) | (unfold inI64; omega) | (constructor <;> omega) | (simp only [inI64, List.length_cons, List.length_append, List.length_nil, List.length_set] at *; omega) | decide | (unfold inI64; decide)); conv => whnf)
      | omega | decide | assumption)
    · refine LoopX.rule hT (C := []) (ι := Nat) (fun k => k ≤ (l.getD (i : Int).toNat hi0).legs.length ∧ occK v (l.getD (i : Int).toNat hi0).legs k t = false)
        (fun k => mkSt [(1, .d (.str v)), (2, .d (.int .i64 t)), (9, .ptr 9 0), (13, .d (hirs l)), (14, .d (.int .i64 l.length)), (15, .d (.int .i64 i)), (20, .d (legs (l.getD (i : Int).toNat hi0).legs)), (21, .d (.int .i64 (l.getD (i : Int).toNat hi0).legs.length)), (22, .d (.int .i64 k))] [(9, hcell (l.getD (i : Int).toNat hi0))])
        (fun k => (l.getD (i : Int).toNat hi0).legs.length - k) 0 ⟨by omega, by simp [occK]⟩ (by (refine Entails.mk' [(9, 9)] rfl rfl ?_ ?_ <;> repeat' (first | exact True.intro | exact SV.le_refl _ | exact Res.le_refl _ | exact SV.le_int (by omega) | exact SV.le_any _ | refine And.intro ?_ ?_)); done) ?_
      rintro k ⟨q1, q2⟩
      have f1 : (k : Int).toNat = k := Int.toNat_natCast k
      by_cases hkk : k < (l.getD (i : Int).toNat hi0).legs.length
      all_goals have hkk' := hkk
      all_goals rw [e1] at hkk'
      · have hx := hsq.1 _ (getD_mem (x := lg0) (show (k : Int).toNat < (l.getD (i : Int).toNat hi0).legs.length by omega))
        have hon : onL v ((l.getD (i : Int).toNat hi0).legs.getD (k : Int).toNat lg0) t = (decide (((l.getD (i : Int).toNat hi0).legs.getD (k : Int).toNat lg0).veh = v) && (decide (((l.getD (i : Int).toNat hi0).legs.getD (k : Int).toNat lg0).out.tm ≤ t) && decide (t < lastE ((l.getD (i : Int).toNat hi0).legs.getD (k : Int).toNat lg0)))) := rfl
        have hsu := occK_succ (v := v) hkk t
        rw [q2, Bool.false_or, ← f1] at hsu
        conv => whnf
        repeat' (first
          | (refine CallX.exact (z101 ((l.getD (i : Int).toNat hi0).legs.getD (k : Int).toNat lg0)) rfl rfl ?_; rotate_right; conv => whnf)
          | (refine CallX.exact (s110 _ _ _) rfl rfl ?_; rotate_right; conv => whnf)
          | (refine br_intro (fun hb => ?_) (fun hb => ?_) <;> (try simp only [decide_eq_true_eq, decide_eq_false_iff_not, Bool.not_eq_true', Bool.not_eq_false', Bool.and_eq_true, Bool.or_eq_true, beq_iff_eq, not_and, Int.not_le, Int.not_lt, Int.toNat_natCast, beq_eq_false_iff_ne, ne_eq, eq_self, not_true_eq_false, not_false_eq_true] at hb) <;> (conv => whnf))
          | omega
          | (refine And.intro ?_ ?_; ((try dsimp only); first | omega | (refine ⟨by omega, by omega, Int.le_trans (Int.mul_le_mul_of_nonneg_right (Int.ofNat_le.2 (Nat.le_of_ble_eq_true (rfl : Nat.ble _ 1024 = true))) (by omega)) (by omega), by omega⟩) | (refine Nat.le_trans (Nat.mul_le_mul_left _ (Nat.le_of_ble_eq_true (rfl : Nat.ble _ 1024 = true))) ?_; omega) | (unfold inI64; omega) | (constructor <;> omega) | (simp only [inI64, List.length_cons, List.length_append, List.length_nil, List.length_set] at *; omega) | decide | (unfold inI64; decide)); conv => whnf)
          | omega | decide | assumption)
        all_goals try (exfalso; omega)
        · have ho : onL v ((l.getD (i : Int).toNat hi0).legs.getD (k : Int).toNat lg0) t = true := by
            rw [hon]; simp only [e1, f1, Bool.and_eq_true, decide_eq_true_eq] at *
            exact ⟨by assumption, by omega, by omega⟩
          have hoc : occ v (l.getD i hi0) t = true := by rw [← e1]; exact occK_mono (by omega) ho
          refine .ret _ ?_
          conv => whnf
          refine ⟨[], ⟨congrArg SV.tup ?_, rfl⟩, trivial⟩
          repeat' (refine cons_eq ?_ ?_)
          all_goals (conv => lhs; whnf)
          all_goals try (with_reducible rfl)
          all_goals (rw [withK_yes hi p2 hoc]; try rw [e1])
        · have ho : onL v ((l.getD (i : Int).toNat hi0).legs.getD (k : Int).toNat lg0) t = false := by
            rw [hon, ← Bool.not_eq_true]; simp only [e1, f1, Bool.and_eq_true, decide_eq_true_eq] at *; omega
          rw [ho, f1] at hsu
          exact ⟨k + 1, ⟨by omega, hsu⟩, by omega, (by (refine Entails.mk' [(9, 9)] rfl rfl ?_ ?_ <;> repeat' (first | exact True.intro | exact SV.le_refl _ | exact Res.le_refl _ | exact SV.le_int (by omega) | exact SV.le_any _ | refine And.intro ?_ ?_)); done)⟩
        · have ho : onL v ((l.getD (i : Int).toNat hi0).legs.getD (k : Int).toNat lg0) t = false := by
            rw [hon, ← Bool.not_eq_true]; simp only [e1, f1, Bool.and_eq_true, decide_eq_true_eq] at *
            exact fun q => hb q.1
          rw [ho, f1] at hsu
          exact ⟨k + 1, ⟨by omega, hsu⟩, by omega, (by (refine Entails.mk' [(9, 9)] rfl rfl ?_ ?_ <;> repeat' (first | exact True.intro | exact SV.le_refl _ | exact Res.le_refl _ | exact SV.le_int (by omega) | exact SV.le_any _ | refine And.intro ?_ ?_)); done)⟩
      · have hkl : k = (l.getD (i : Int).toNat hi0).legs.length := by omega
        rw [hkl, occK_all, e1] at q2
        conv => whnf
        repeat' (first
          | (refine CallX.exact (z101 ((l.getD (i : Int).toNat hi0).legs.getD (k : Int).toNat lg0)) rfl rfl ?_; rotate_right; conv => whnf)
          | (refine CallX.exact (s110 _ _ _) rfl rfl ?_; rotate_right; conv => whnf)
          | (refine br_intro (fun hb => ?_) (fun hb => ?_) <;> (try simp only [decide_eq_true_eq, decide_eq_false_iff_not, Bool.not_eq_true', Bool.not_eq_false', Bool.and_eq_true, Bool.or_eq_true, beq_iff_eq, not_and, Int.not_le, Int.not_lt, Int.toNat_natCast, beq_eq_false_iff_ne, ne_eq, eq_self, not_true_eq_false, not_false_eq_true] at hb) <;> (conv => whnf))
          | omega
          | (refine And.intro ?_ ?_; ((try dsimp only); first | omega | (refine ⟨by omega, by omega, Int.le_trans (Int.mul_le_mul_of_nonneg_right (Int.ofNat_le.2 (Nat.le_of_ble_eq_true (rfl : Nat.ble _ 1024 = true))) (by omega)) (by omega), by omega⟩) | (refine Nat.le_trans (Nat.mul_le_mul_left _ (Nat.le_of_ble_eq_true (rfl : Nat.ble _ 1024 = true))) ?_; omega) | (unfold inI64; omega) | (constructor <;> omega) | (simp only [inI64, List.length_cons, List.length_append, List.length_nil, List.length_set] at *; omega) | decide | (unfold inI64; decide)); conv => whnf)
          | omega | decide | assumption)
        all_goals try (exfalso; omega)
        exact ⟨i + 1, ⟨by omega, all_step p2 q2⟩, by omega, (by (refine Entails.mk' [] rfl rfl ?_ ?_ <;> repeat' (first | exact True.intro | exact SV.le_refl _ | exact Res.le_refl _ | exact SV.le_int (by omega) | exact SV.le_any _ | refine And.intro ?_ ?_)); done)⟩
  · conv => whnf
    repeat' (first
      | (refine br_intro (fun hb => ?_) (fun hb => ?_) <;> (try simp only [decide_eq_true_eq, decide_eq_false_iff_not, Bool.not_eq_true', Bool.not_eq_false', Bool.and_eq_true, Bool.or_eq_true, beq_iff_eq, not_and, Int.not_le, Int.not_lt, Int.toNat_natCast, beq_eq_false_iff_ne, ne_eq, eq_self, not_true_eq_false, not_false_eq_true] at hb) <;> (conv => whnf))
      | omega
      | (refine And.intro ?_ ?_; ((try dsimp only); first | omega | (refine ⟨by omega, by omega, Int.le_trans (Int.mul_le_mul_of_nonneg_right (Int.ofNat_le.2 (Nat.le_of_ble_eq_true (rfl : Nat.ble _ 1024 = true))) (by omega)) (by omega), by omega⟩) | (refine Nat.le_trans (Nat.mul_le_mul_left _ (Nat.le_of_ble_eq_true (rfl : Nat.ble _ 1024 = true))) ?_; omega) | (unfold inI64; omega) | (constructor <;> omega) | (simp only [inI64, List.length_cons, List.length_append, List.length_nil, List.length_set] at *; omega) | decide | (unfold inI64; decide)); conv => whnf)
      | omega | decide | assumption)
    refine .ret _ ?_
    conv => whnf
    refine ⟨[], ⟨congrArg SV.tup ?_, rfl⟩, trivial⟩
    repeat' (refine cons_eq ?_ ?_)
    all_goals (conv => lhs; whnf)
    all_goals try (with_reducible rfl)
    all_goals
      rw [withK_no (fun j hj => p2 j (by omega))]
-- the order of shares
theorem z105 (p q : Pair) : FSpec Tryz.prog 105 [.agg ((pF p).map .d), .agg ((pF q).map .d)] [] (fun y r => y = .d (.int .i64 (cmpS p.1 q.1)) ∧ r = []) := by
  refine spec_of hT (C := []) Tryz.func105 rfl Tryz.call105 rfl rfl rfl ?_
  conv => whnf
  repeat' (first
    | (refine CallX.exact (s190 _ _) rfl rfl ?_; rotate_right; conv => whnf)
    | (refine br_intro (fun hb => ?_) (fun hb => ?_) <;> (try simp only [decide_eq_true_eq, decide_eq_false_iff_not, Bool.not_eq_true', Bool.not_eq_false', Bool.and_eq_true, Bool.or_eq_true, beq_iff_eq, not_and, Int.not_le, Int.not_lt, Int.toNat_natCast, beq_eq_false_iff_ne, ne_eq, eq_self, not_true_eq_false, not_false_eq_true] at hb) <;> (conv => whnf))
    | omega
    | (refine And.intro ?_ ?_; ((try dsimp only); first | omega | (refine ⟨by omega, by omega, Int.le_trans (Int.mul_le_mul_of_nonneg_right (Int.ofNat_le.2 (Nat.le_of_ble_eq_true (rfl : Nat.ble _ 1024 = true))) (by omega)) (by omega), by omega⟩) | (refine Nat.le_trans (Nat.mul_le_mul_left _ (Nat.le_of_ble_eq_true (rfl : Nat.ble _ 1024 = true))) ?_; omega) | (unfold inI64; omega) | (constructor <;> omega) | (simp only [inI64, List.length_cons, List.length_append, List.length_nil, List.length_set] at *; omega) | decide | (unfold inI64; decide)); conv => whnf)
    | omega | decide | assumption)
  refine .ret _ ?_
  conv => whnf
  refine ⟨[], ⟨?_, rfl⟩, trivial⟩
  conv => lhs; whnf
end Go.Proofs.YtcjfniddeibbhaaGreatDoor
set_option maxRecDepth 20000
namespace Go.Proofs.YtcjfniddeibbhaaGreatDoor
open Go Go.Eng
-- mark.onPanels
end Go.Proofs.YtcjfniddeibbhaaGreatDoor
set_option maxRecDepth 20000
namespace Go.Proofs.YtcjfniddeibbhaaGreatDoor
open Go Go.Eng
-- MarksFault
end Go.Proofs.YtcjfniddeibbhaaGreatDoor
