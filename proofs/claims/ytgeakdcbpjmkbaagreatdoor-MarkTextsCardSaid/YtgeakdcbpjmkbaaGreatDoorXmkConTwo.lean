/- MarkTexts is proved: for every input the law returns true, and its argument reads afterwards as it read before. Conditions: those of the given row alone. -/
import Derived.Test.YtgeakdcbpjmkbaaGreatDoorXmkConOne
import Derived.Test.YtgeakdcbpjmkbaaGreatDoorXmkEngTwo
import Derived.Shelf.Strings.Repeat
import Derived.Lib.ItoaNum
import Derived.Lib.AtoiAll
import Derived.Lib.Strings
import Derived.Shelf.Strings.Search3
import Derived.Shelf.Spec.SlicesGrow
set_option linter.unusedVariables false
set_option linter.unusedSimpArgs false
set_option maxRecDepth 20000
namespace Go.Proofs.YtgeakdcbpjmkbaaGreatDoor
open Go Go.Eng
def oXDwA135_8 : List (Nat × List Nat) := [(0, []), (1, []), (2, []), (3, []), (4, []), (5, [3, 4]), (6, [3, 4, 5]), (7, [3, 4, 5]), (8, [3, 4]), (9, [3, 4]), (10, [3, 4]), (11, []), (12, []), (13, [])]
theorem s98 (l : List Pnl) (hk : pnOk l) : FSpec Tryz.prog 135 [.d (pnls l)] [] (fun x r => x = .d (.int .i64 (pansE l)) ∧ r = []) := by
 refine spec_of hT (C := []) Tryz.func135 rfl Tryz.call135 rfl rfl rfl ?_
 conv => whnf
 refine br_intro (fun h0 => ?_) (fun h0 => ?_)
 · simp at h0
   conv => whnf
   refine .ret _ ?_
   conv => whnf
   refine ⟨[], ⟨?_, rfl⟩, trivial⟩
   conv => lhs; whnf
   unfold pansE; rw [if_pos (by omega)]
 simp at h0
 conv => whnf
 refine LoopX.rule hT (C := []) (ι := Nat) (fun i => i ≤ l.length ∧ ∀ j, j < i → panE l j = 0) (fun i => mkSt [(0, .d (pnls l)), (8, .d (pnls l)), (9, .d (.int .i64 l.length)), (10, .d (.int .i64 i))] []) (fun i => l.length - i) 0 ⟨by omega, by omega⟩ (by (refine Entails.mk' [] rfl rfl ?_ ?_ <;> repeat' (first | exact True.intro | exact lr | exact rr | exact SV.le_int (by omega) | exact SV.le_any _ | refine And.intro ?_ ?_)); done) ?_
 rintro i ⟨p1, p2⟩
 have hx : (i : Int) < l.length → pnK (l.getD (i : Int).toNat pn0) := fun hi => hk.2 _ (getD_mem (by omega))
 have e1 : (i : Int).toNat = i := Int.toNat_natCast i
 have hbad : ∀ e : Int, i < l.length → e ≠ 0 → panE l i = e → pansE l = e := fun e h h1 h2 => by
  unfold pansE; rw [if_neg (by omega)]
  exact firstAt_eq h p2 h1 h2
 conv => whnf
 repeat' (first | (refine CallX.exact (s108 _ (hx (by omega))) rfl rfl ?_; rotate_right; conv => whnf) | (refine CallX.exact (s119 _ _ _) rfl rfl ?_; rotate_right; conv => whnf) | (refine br_intro ?_ ?_ <;> intro hb <;> (try simp only [brs] at hb) <;> conv => whnf) | (refine RegX.rule (id := 8) hT rfl [] oXDwA135_8 (by decide +kernel) ?_; conv => whnf) | omega | (refine And.intro ?_ ?_; ((try dsimp only); first | omega | (refine szA rfl ?_; omega) | (refine szB rfl ?_; omega) | (unfold inI64; omega) | exact rfl | (simp only [List.toList_toArray, List.length_cons, List.length_nil]; omega) | (simp only [lns] at *; omega) | decide | (unfold inI64; decide)); conv => whnf) | decide | assumption)
 all_goals first
  | (refine ⟨i + 1, ⟨by omega, first_step p2 (by clear p2 hbad hk hx; simp only [e1, toNat_pred] at *; unfold panE strLe; grind)⟩, by omega, (by (refine Entails.mk' [] rfl rfl ?_ ?_ <;> repeat' (first | exact True.intro | exact lr | exact rr | exact SV.le_int (by omega) | exact SV.le_any _ | refine And.intro ?_ ?_)); done)⟩)
  | (refine .ret _ ?_
     conv => whnf
     refine ⟨[], ⟨?_, rfl⟩, trivial⟩
     conv => lhs; whnf
     congr 2
     first
      | exact (hbad _ (by omega) (by decide) (by clear p2 hbad hk hx; simp only [e1, toNat_pred] at *; unfold panE strLe; grind)).symm
      | (have : i = l.length := by omega
         subst this
         unfold pansE; rw [if_neg (by omega), firstAt_zero p2]))
theorem s99 (l : List Pnl) (hk : pnOk l) : FSpec Tryz.prog 47 [.d (pnls l)] [] (fun x r => x = .d (.int .i64 (pansE l)) ∧ r = []) := by
 refine spec_of hT (C := []) Tryz.func47 rfl Tryz.call47 rfl rfl rfl ?_
 conv => whnf
 refine br_intro (fun h0 => ?_) (fun h0 => ?_)
 · simp at h0
   conv => whnf
   refine .ret _ ?_
   conv => whnf
   refine ⟨[], ⟨?_, rfl⟩, trivial⟩
   conv => lhs; whnf
   unfold pansE; rw [if_pos (by omega)]
 simp at h0
 conv => whnf
 refine LoopX.rule hT (C := []) (ι := Nat) (fun i => i ≤ l.length ∧ ∀ j, j < i → panE l j = 0) (fun i => mkSt [(3, .d (.str (if i = 0 then [] else (l.getD (i - 1) pn0).key))), (9, .d (pnls l)), (10, .d (.int .i64 l.length)), (11, .d (.int .i64 i))] []) (fun i => l.length - i) 0 ⟨by omega, by omega⟩ (by (refine Entails.mk' [] rfl rfl ?_ ?_ <;> repeat' (first | exact True.intro | exact lr | exact rr | exact SV.le_int (by omega) | exact SV.le_any _ | refine And.intro ?_ ?_)); done) ?_
 rintro i ⟨p1, p2⟩
 have hx : (i : Int) < l.length → pnK (l.getD (i : Int).toNat pn0) := fun hi => hk.2 _ (getD_mem (by omega))
 have e1 : (i : Int).toNat = i := Int.toNat_natCast i
 have hbad : ∀ e : Int, i < l.length → e ≠ 0 → panE l i = e → pansE l = e := fun e h h1 h2 => by
  unfold pansE; rw [if_neg (by omega)]
  exact firstAt_eq h p2 h1 h2
 conv => whnf
 repeat' (first | (refine CallX.exact (s21 _ (hx (by omega))) rfl rfl ?_; rotate_right; conv => whnf) | (refine CallX.exact (s109 _ _ _) rfl rfl ?_; rotate_right; conv => whnf) | (refine br_intro ?_ ?_ <;> intro hb <;> (try simp only [brs] at hb) <;> conv => whnf) | omega | (refine And.intro ?_ ?_; ((try dsimp only); first | omega | (refine szA rfl ?_; omega) | (refine szB rfl ?_; omega) | (unfold inI64; omega) | exact rfl | (simp only [List.toList_toArray, List.length_cons, List.length_nil]; omega) | (simp only [lns] at *; omega) | decide | (unfold inI64; decide)); conv => whnf) | decide | assumption)
 all_goals first
  | (refine ⟨i + 1, ⟨by omega, first_step p2 (by clear p2 hbad hk hx; simp only [e1] at *; unfold panE strLe; grind)⟩, by omega, Entails.mk' [] rfl rfl ⟨(by rw [show (if i + 1 = 0 then ([] : List UInt8) else (l.getD (i + 1 - 1) pn0).key) = (l.getD (i : Int).toNat pn0).key from by rw [if_neg (by omega), e1, Nat.add_sub_cancel]]; exact lr), lr, lr, lr, trivial⟩ trivial⟩)
  | (refine .ret _ ?_
     conv => whnf
     refine ⟨[], ⟨?_, rfl⟩, trivial⟩
     conv => lhs; whnf
     congr 2
     first
      | exact (hbad _ (by omega) (by decide) (by clear p2 hbad hk hx; simp only [e1] at *; unfold panE strLe; grind [isKey_nil, less_nil])).symm
      | (have : i = l.length := by omega
         subst this
         unfold pansE; rw [if_neg (by omega), firstAt_zero p2]))
theorem SV.le_take {α : Type} {f : α → List DV} {d : α} {l : List α} {k m : Nat} {get : Nat → List DV} (hg : ∀ i, i < l.length → get i = rowF f d l i) (hm : m ≤ l.length) :
 SV.le (.d (.ro k m fun i => get (0 + i))) (.d (seqD k f d (l.take m))) :=
 SV.le_ro (by rw [List.length_take]; omega) (fun i hi => by
  rw [Nat.zero_add, hg i (by omega)]
  simp only [rowF]
  rw [List.getD_eq_getElem?_getD, List.getD_eq_getElem?_getD, List.getElem?_take_of_lt hi])
theorem allK_take {α : Type} {K : α → Prop} {l : List α} {k m : Nat} (h : allK K k l) : allK K k (l.take m) :=
 ⟨by rw [List.length_take]; have := h.1; omega, fun x hx => h.2 x (List.mem_of_mem_take hx)⟩
def pnG (x : Pnl) : Prop := x.key.length ≤ 8
def pnLit (u1 u2 u3 : Int) : List Pnl := [⟨[100, 111, 111, 114], 1000, 800, u1⟩, ⟨[104, 111, 111, 100], u2, 900, u3⟩, ⟨[114, 111, 111, 102], 300, 300, 4000⟩]
theorem pnLit_ok (u1 u2 u3 : Int) : allK pnG 3 (pnLit u1 u2 u3) := ⟨Nat.le_refl _, by intro x hx; simp [pnLit] at hx; rcases hx with rfl | rfl | rfl <;> simp [pnG]⟩
theorem pnLit_rows (u1 u2 u3 : Int) : ∀ i, i < (pnLit u1 u2 u3).length → [[DV.str [100, 111, 111, 114], .int .i64 1000, .int .i64 800, .int .i64 u1], [.str [104, 111, 111, 100], .int .i64 u2, .int .i64 900, .int .i64 u3], [.str [114, 111, 111, 102], .int .i64 300, .int .i64 300, .int .i64 4000]].getD i [] = rowF pnF pn0 (pnLit u1 u2 u3) i := rows_lit rfl
theorem pick3 {u : Int} (h : u ∈ ([1, 2, 3, 3] : List Int)) : 1 ≤ u ∧ u ≤ 3 := by
 simp only [List.mem_cons, List.not_mem_nil, or_false] at h; omega
theorem s95 (n : Nat) (L : Nat → Int) (hL : Rok n L) (a : Int) (h0 : 0 ≤ a) (ha : a ≤ 2^38) :
 FSpec Tryz.prog 42 [.ptr 1000000 0] [(1000000, strm n L a)] (fun y r => (∃ l, (allK pnG 3 l ∧ 1 ≤ l.length) ∧ y = .d (pnls l)) ∧ Moved n L a 20 r) := by
 refine spec_of hT (C := [17]) Tryz.func42 rfl Tryz.call42 rfl rfl rfl ?_
 conv => whnf
 repeat' (first | (refine CallX.of (s33 n L hL _ ?_ ?_ [0, 3000, 9000] ?_ ?_) [(1000000, 1000000)] rfl ⟨lr, SV.le_lit rfl rfl, trivial⟩ ⟨rr, trivial⟩ rfl rfl ?_; rotate_right; rintro x rout ⟨⟨u1, hu1, rfl⟩, ⟨c, c1, c2, rfl⟩⟩; refine ⟨rfl, ?_⟩; conv => whnf) | (refine CallX.of (s33 n L hL _ ?_ ?_ [50, 1200] ?_ ?_) [(1000000, 1000000)] rfl ⟨lr, SV.le_lit rfl rfl, trivial⟩ ⟨rr, trivial⟩ rfl rfl ?_; rotate_right; rintro x rout ⟨⟨u2, hu2, rfl⟩, ⟨c, c1, c2, rfl⟩⟩; refine ⟨rfl, ?_⟩; conv => whnf) | (refine CallX.of (s33 n L hL _ ?_ ?_ [5000, 1000000] ?_ ?_) [(1000000, 1000000)] rfl ⟨lr, SV.le_lit rfl rfl, trivial⟩ ⟨rr, trivial⟩ rfl rfl ?_; rotate_right; rintro x rout ⟨⟨u3, hu3, rfl⟩, ⟨c, c1, c2, rfl⟩⟩; refine ⟨rfl, ?_⟩; conv => whnf) | (refine CallX.of (s84 n L hL _ ?_ ?_ _ ?_) [(1000000, 1000000)] rfl ⟨lr, lr, trivial⟩ ⟨rr, trivial⟩ rfl rfl ?_; rotate_right; rintro x rout ⟨⟨f, rfl⟩, ⟨c, c1, c2, rfl⟩⟩; refine ⟨rfl, ?_⟩; conv => whnf) | (refine CallX.of (s86 n L hL _ ?_ ?_ _ ?_) [(1000000, 1000000)] rfl ⟨lr, lr, trivial⟩ ⟨rr, trivial⟩ rfl rfl ?_; rotate_right; rintro x rout ⟨⟨j, hj1, hj2, hj3, rfl⟩, ⟨c, c1, c2, rfl⟩⟩; refine ⟨rfl, ?_⟩; conv => whnf) | (refine CallX.of (s15 n L hL _ ?_ ?_ [_, [], [100, 111, 111, 114]] (by simp) (by simp)) [(1000000, 1000000)] rfl ⟨lr, SV.le_lit rfl rfl, trivial⟩ ⟨rr, trivial⟩ rfl rfl ?_; rotate_right; rintro x rout ⟨⟨u4, hu4, rfl⟩, ⟨c, c1, c2, rfl⟩⟩; refine ⟨rfl, ?_⟩; conv => whnf) | (refine CallX.of (s104 n L hL _ ?_ ?_ 1 5000 ?_ ?_ ?_) [(1000000, 1000000)] rfl ⟨lr, lr, lr, trivial⟩ ⟨rr, trivial⟩ rfl rfl ?_; rotate_right; rintro x rout ⟨⟨u5, hk1, hk2, rfl⟩, ⟨c, c1, c2, rfl⟩⟩; refine ⟨rfl, ?_⟩; conv => whnf) | (refine CallX.of (s104 n L hL _ ?_ ?_ 0 1000000 ?_ ?_ ?_) [(1000000, 1000000)] rfl ⟨lr, lr, lr, trivial⟩ ⟨rr, trivial⟩ rfl rfl ?_; rotate_right; rintro x rout ⟨⟨u6, hk3, hk4, rfl⟩, ⟨c, c1, c2, rfl⟩⟩; refine ⟨rfl, ?_⟩; conv => whnf) | (refine CallX.of (s33 n L hL _ ?_ ?_ [1, 2, 3, 3] ?_ ?_) [(1000000, 1000000)] rfl ⟨lr, SV.le_lit rfl rfl, trivial⟩ ⟨rr, trivial⟩ rfl rfl ?_; rotate_right; rintro x rout ⟨⟨u7, hu7, rfl⟩, ⟨c, c1, c2, rfl⟩⟩; have hw7 := pick3 hu7; refine ⟨rfl, ?_⟩; conv => whnf) | (refine SliceX.freeze 69 4 _ _ rfl ?_; conv => whnf) | (refine br_intro ?_ ?_ <;> intro hb <;> (try simp only [brs] at hb) <;> conv => whnf) | omega | (refine And.intro ?_ ?_; ((try dsimp only); first | omega | (refine szA rfl ?_; omega) | (refine szB rfl ?_; omega) | (unfold inI64; omega) | exact rfl | (simp only [List.toList_toArray, List.length_cons, List.length_nil]; omega) | (simp only [lns] at *; omega) | decide | (unfold inI64; decide)); conv => whnf) | decide | assumption)
 · have hj : j = 0 ∨ j = 1 ∨ j = 2 := by omega
   rcases hj with rfl | rfl | rfl
   all_goals
    conv => whnf
    repeat' (first | (refine CallX.of (s33 n L hL _ ?_ ?_ [0, 3000, 9000] ?_ ?_) [(1000000, 1000000)] rfl ⟨lr, SV.le_lit rfl rfl, trivial⟩ ⟨rr, trivial⟩ rfl rfl ?_; rotate_right; rintro x rout ⟨⟨u1, hu1, rfl⟩, ⟨c, c1, c2, rfl⟩⟩; refine ⟨rfl, ?_⟩; conv => whnf) | (refine CallX.of (s33 n L hL _ ?_ ?_ [50, 1200] ?_ ?_) [(1000000, 1000000)] rfl ⟨lr, SV.le_lit rfl rfl, trivial⟩ ⟨rr, trivial⟩ rfl rfl ?_; rotate_right; rintro x rout ⟨⟨u2, hu2, rfl⟩, ⟨c, c1, c2, rfl⟩⟩; refine ⟨rfl, ?_⟩; conv => whnf) | (refine CallX.of (s33 n L hL _ ?_ ?_ [5000, 1000000] ?_ ?_) [(1000000, 1000000)] rfl ⟨lr, SV.le_lit rfl rfl, trivial⟩ ⟨rr, trivial⟩ rfl rfl ?_; rotate_right; rintro x rout ⟨⟨u3, hu3, rfl⟩, ⟨c, c1, c2, rfl⟩⟩; refine ⟨rfl, ?_⟩; conv => whnf) | (refine CallX.of (s84 n L hL _ ?_ ?_ _ ?_) [(1000000, 1000000)] rfl ⟨lr, lr, trivial⟩ ⟨rr, trivial⟩ rfl rfl ?_; rotate_right; rintro x rout ⟨⟨f, rfl⟩, ⟨c, c1, c2, rfl⟩⟩; refine ⟨rfl, ?_⟩; conv => whnf) | (refine CallX.of (s86 n L hL _ ?_ ?_ _ ?_) [(1000000, 1000000)] rfl ⟨lr, lr, trivial⟩ ⟨rr, trivial⟩ rfl rfl ?_; rotate_right; rintro x rout ⟨⟨j, hj1, hj2, hj3, rfl⟩, ⟨c, c1, c2, rfl⟩⟩; refine ⟨rfl, ?_⟩; conv => whnf) | (refine CallX.of (s15 n L hL _ ?_ ?_ [_, [], [100, 111, 111, 114]] (by simp) (by simp)) [(1000000, 1000000)] rfl ⟨lr, SV.le_lit rfl rfl, trivial⟩ ⟨rr, trivial⟩ rfl rfl ?_; rotate_right; rintro x rout ⟨⟨u4, hu4, rfl⟩, ⟨c, c1, c2, rfl⟩⟩; refine ⟨rfl, ?_⟩; conv => whnf) | (refine CallX.of (s104 n L hL _ ?_ ?_ 1 5000 ?_ ?_ ?_) [(1000000, 1000000)] rfl ⟨lr, lr, lr, trivial⟩ ⟨rr, trivial⟩ rfl rfl ?_; rotate_right; rintro x rout ⟨⟨u5, hk1, hk2, rfl⟩, ⟨c, c1, c2, rfl⟩⟩; refine ⟨rfl, ?_⟩; conv => whnf) | (refine CallX.of (s104 n L hL _ ?_ ?_ 0 1000000 ?_ ?_ ?_) [(1000000, 1000000)] rfl ⟨lr, lr, lr, trivial⟩ ⟨rr, trivial⟩ rfl rfl ?_; rotate_right; rintro x rout ⟨⟨u6, hk3, hk4, rfl⟩, ⟨c, c1, c2, rfl⟩⟩; refine ⟨rfl, ?_⟩; conv => whnf) | (refine CallX.of (s33 n L hL _ ?_ ?_ [1, 2, 3, 3] ?_ ?_) [(1000000, 1000000)] rfl ⟨lr, SV.le_lit rfl rfl, trivial⟩ ⟨rr, trivial⟩ rfl rfl ?_; rotate_right; rintro x rout ⟨⟨u7, hu7, rfl⟩, ⟨c, c1, c2, rfl⟩⟩; have hw7 := pick3 hu7; refine ⟨rfl, ?_⟩; conv => whnf) | (refine SliceX.freeze 69 4 _ _ rfl ?_; conv => whnf) | (refine br_intro ?_ ?_ <;> intro hb <;> (try simp only [brs] at hb) <;> conv => whnf) | omega | (refine And.intro ?_ ?_; ((try dsimp only); first | omega | (refine szA rfl ?_; omega) | (refine szB rfl ?_; omega) | (unfold inI64; omega) | exact rfl | (simp only [List.toList_toArray, List.length_cons, List.length_nil]; omega) | (simp only [lns] at *; omega) | decide | (unfold inI64; decide)); conv => whnf) | decide | assumption)
    refine .weak _ ?_
    (conv => whnf)
    have hu : u4.length ≤ 8 := mem_len hu4 rfl
    refine ⟨_, [(1000000, strm n L _)], SV.le_take (f := pnF) (d := pn0) (rows_updG (rows_updG (rows_updG (pnLit_rows u1 u2 u3) (fun y : Pnl => (⟨u4, y.w, y.h, y.pr⟩ : Pnl)) (fun _ => rfl)) (fun y : Pnl => (⟨y.key, u5, y.h, y.pr⟩ : Pnl)) (fun _ => rfl)) (fun y : Pnl => (⟨y.key, y.w, y.h, u6⟩ : Pnl)) (fun _ => rfl)) (by simp [pnLit]; omega), ⟨⟨_, ?_, rfl⟩, _, by omega, by omega, rfl⟩, rr, trivial⟩
    exact ⟨allK_take (allK_upd (g := fun y : Pnl => (⟨y.key, y.w, y.h, u6⟩ : Pnl)) (allK_upd (g := fun y : Pnl => (⟨y.key, u5, y.h, y.pr⟩ : Pnl)) (allK_upd (g := fun y : Pnl => (⟨u4, y.w, y.h, y.pr⟩ : Pnl)) (pnLit_ok u1 u2 u3) (fun y hy => hu)) (fun y hy => hy)) (fun y hy => hy)), by rw [List.length_take]; simp only [List.length_set]; show 1 ≤ min _ 3; omega⟩
 · refine .weak _ ?_
   (conv => whnf)
   exact ⟨_, [(1000000, strm n L _)], SV.le_take (l := pnLit u1 u2 u3) (pnLit_rows u1 u2 u3) (by show (u7 - 0).toNat ≤ 3; omega), ⟨⟨_, ⟨allK_take (pnLit_ok u1 u2 u3), by rw [List.length_take]; show 1 ≤ min _ 3; omega⟩, rfl⟩, _, by omega, by omega, rfl⟩, rr, trivial⟩
def dwOk (p : Pnl) (m : Mrk) : Bool := (m.pan == p.key && decide (m.x < p.w)) && decide (m.y < p.h)
def dwAt (c cols : Int) (m : Mrk) : Int := m.y.tdiv c * (cols + 1) + m.x.tdiv c
def dwSel (p : Pnl) (c cols : Int) (ms : List Mrk) (z : Int) : List Mrk := ms.filter fun m => dwOk p m && decide (dwAt c cols m = z)
def dwSign : List UInt8 := [32, 115, 100, 99, 107]
def dwBase (cols : Int) (j : Nat) : UInt8 := if j % (cols.toNat + 1) = cols.toNat then 10 else 46
def dwCh (n : Nat) (kind : Int) : UInt8 := if n = 1 then dwSign.getD kind.toNat 0 else UInt8.ofNat (48 + min n 9)
def dwB (p : Pnl) (c cols : Int) (ms : List Mrk) (j : Nat) : UInt8 :=
 match (dwSel p c cols ms j).getLast? with
 | none => dwBase cols j
 | some m => dwCh (dwSel p c cols ms j).length m.kind
def dwPic (p : Pnl) (c cols rows : Int) (ms : List Mrk) : List UInt8 := (List.range (rows.toNat * (cols.toNat + 1))).map (dwB p c cols ms)
theorem dwSel_snoc (p : Pnl) (c cols : Int) (ms : List Mrk) (m : Mrk) (j : Int) : dwSel p c cols (ms ++ [m]) j = if dwOk p m = true ∧ dwAt c cols m = j then dwSel p c cols ms j ++ [m] else dwSel p c cols ms j := by
 unfold dwSel
 rw [List.filter_append]
 by_cases h : dwOk p m = true ∧ dwAt c cols m = j
 · rw [if_pos h]; simp [h.1, h.2]
 · rw [if_neg h]
   have : (dwOk p m && decide (dwAt c cols m = j)) = false := by
    cases q : dwOk p m with
    | false => rfl
    | true => simp; exact fun e => h ⟨q, e⟩
   simp [this]
theorem dwB_snoc (p : Pnl) (c cols : Int) (ms : List Mrk) (m : Mrk) (j : Nat) : dwB p c cols (ms ++ [m]) j = if dwOk p m = true ∧ dwAt c cols m = (j : Int) then dwCh ((dwSel p c cols ms j).length + 1) m.kind else dwB p c cols ms j := by
 have e := dwSel_snoc p c cols ms m j
 by_cases h : dwOk p m = true ∧ dwAt c cols m = (j : Int)
 · rw [if_pos h] at e ⊢
   unfold dwB; rw [e]; simp
 · rw [if_neg h] at e ⊢
   unfold dwB; rw [e]
theorem dwB_nil (p : Pnl) (c cols : Int) (j : Nat) : dwB p c cols [] j = dwBase cols j := rfl
theorem dwt_bd {x c : Int} (h0 : 0 ≤ x) (hc : 0 < c) : 0 ≤ x.tdiv c ∧ c * (x.tdiv c) ≤ x ∧ x < c * (x.tdiv c) + c := by
 rw [Int.tdiv_eq_ediv_of_nonneg h0]
 have h1 := Int.emod_nonneg x (by omega : c ≠ 0)
 have h2 := Int.emod_lt_of_pos x hc
 have h3 := Int.mul_ediv_add_emod x c
 have h4 : 0 ≤ x / c := Int.ediv_nonneg h0 (by omega)
 omega
theorem dwt_lt {x w c : Int} (h0 : 0 ≤ x) (hw : x < w) (hc : 0 < c) : x.tdiv c < (w + c - 1).tdiv c := by
 obtain ⟨a1, a2, a3⟩ := dwt_bd h0 hc
 obtain ⟨b1, b2, b3⟩ := dwt_bd (x := w + c - 1) (by omega) hc
 generalize x.tdiv c = X at *
 generalize (w + c - 1).tdiv c = W at *
 rcases Int.lt_or_le X W with q | q
 · exact q
 · have := Int.mul_le_mul_of_nonneg_left q (by omega : 0 ≤ c)
   omega
theorem dwt_up {x c k : Int} (h0 : 0 ≤ x) (hc : 0 < c) (h : x ≤ c * k) (hk : 0 ≤ k) : x.tdiv c ≤ k := by
 obtain ⟨a1, a2, a3⟩ := dwt_bd h0 hc
 generalize x.tdiv c = X at *
 rcases Int.lt_or_le k X with q | q
 · have := Int.mul_le_mul_of_nonneg_left (show k + 1 ≤ X by omega) (by omega : 0 ≤ c)
   rw [Int.mul_add, Int.mul_one] at this
   omega
 · exact q
theorem dwAt_rc {c cols X Y : Int} {r q : Nat} (hX : 0 ≤ X ∧ X < cols) (hY : 0 ≤ Y) (hq : (q : Int) < cols) : Y * (cols + 1) + X = ((r * (cols.toNat + 1) + q : Nat) : Int) ↔ X = q ∧ Y = r := by
 have hc : ((cols.toNat : Nat) : Int) = cols := by omega
 have e : ((r * (cols.toNat + 1) + q : Nat) : Int) = r * (cols + 1) + q := by
  rw [Int.natCast_add, Int.natCast_mul, Int.natCast_add, hc]; rfl
 rw [e]
 constructor
 · intro h
   have hYr : Y = r := by
    rcases Int.lt_trichotomy Y r with k | k | k
    · have := Int.mul_le_mul_of_nonneg_right (show Y + 1 ≤ r by omega) (show 0 ≤ cols + 1 by omega)
      rw [Int.add_mul, Int.one_mul] at this
      omega
    · exact k
    · have := Int.mul_le_mul_of_nonneg_right (show (r : Int) + 1 ≤ Y by omega) (show 0 ≤ cols + 1 by omega)
      rw [Int.add_mul, Int.one_mul] at this
      omega
   subst hYr
   exact ⟨by omega, rfl⟩
 · rintro ⟨rfl, rfl⟩; rfl
theorem dwAt_bd {cols rows X Y : Int} (hX : 0 ≤ X ∧ X < cols) (hY : 0 ≤ Y ∧ Y < rows) : 0 ≤ Y * (cols + 1) + X ∧ Y * (cols + 1) + X < rows * (cols + 1) := by
 have h1 := Int.mul_nonneg hY.1 (show 0 ≤ cols + 1 by omega)
 have h2 := Int.mul_le_mul_of_nonneg_right (show Y + 1 ≤ rows by omega) (show 0 ≤ cols + 1 by omega)
 rw [Int.add_mul, Int.one_mul] at h2
 omega
theorem dw_mod {r q k : Nat} (hq : q ≤ k) : (r * (k + 1) + q) % (k + 1) = q := by
 rw [Nat.add_comm, Nat.add_mul_mod_self_right, Nat.mod_eq_of_lt (by omega)]
theorem dw_empty (p : Pnl) (c cols rows : Int) (hc : 0 ≤ cols) (hr : 0 ≤ rows) : (List.replicate rows.toNat (List.replicate cols.toNat (46 : UInt8) ++ [10])).flatten = dwPic p c cols rows [] := by
 unfold dwPic
 have key : ∀ R : Nat, (List.replicate R (List.replicate cols.toNat (46 : UInt8) ++ [10])).flatten = (List.range (R * (cols.toNat + 1))).map (dwB p c cols []) := by
  intro R
  induction R with
  | zero => simp
  | succ R ih =>
    rw [List.replicate_succ', List.flatten_append, ih, Nat.add_mul, Nat.one_mul, List.range_add, List.map_append]
    congr 1
    simp only [List.flatten_cons, List.flatten_nil, List.append_nil, List.range_succ, List.map_append, List.map_cons, List.map_nil]
    congr 1
    · refine List.ext_getElem (by simp) (fun i h1 h2 => ?_)
      have hi : i < cols.toNat := by simpa using h1
      simp only [List.getElem_replicate, List.getElem_map, List.getElem_range]
      rw [dwB_nil]; unfold dwBase
      rw [dw_mod (by omega), if_neg (by omega)]
    · rw [dwB_nil]; unfold dwBase
      rw [dw_mod (Nat.le_refl _), if_pos rfl]
 exact key _
end Go.Proofs.YtgeakdcbpjmkbaaGreatDoor
set_option maxRecDepth 100000
namespace Go.Proofs
open Go.Shelf Go.RowKit
variable {P : Program} {ρ : Ren}
set_option maxHeartbeats 1000000 in
theorem bldString (L : Lays.n169 P ρ) (X : Builder.Extra P ρ) (b g cap : Nat) (p : Value) (cur : Array Value) (l : List UInt8) (w : World) (h0 : l ≠ []) (hbk : w.heap[b]? = some (.cells #[p, .slice (some ⟨g, 0, none⟩) l.length cap] (ρ.t 72) (0, 0)))
 (hg : w.heap[g]? = some (.cells cur (ρ.t 5) (0, 0))) (hnc : l.length ≤ cap) (hcm : cap ≤ maxLen) (hcs : cur.size = cap * 1) (hcell : ∀ j x, l[j]? = some x → w.drew.cell? ((⟨g, 0, none⟩ : Addr).add j) = some (.int .u8 x.toNat)) :
 Calls P (ρ.f 169) #[.pointer (some ⟨b, 0, none⟩)] w fun e w' => e = .returned (.string ⟨l.toArray⟩) ∧ w.grownBy w' (some g) := by
 have hl0 : l.length ≠ 0 := by simpa using h0
 have c1 : w.drew.cell? ⟨b, 1, none⟩ = some (.slice (some ⟨g, 0, none⟩) l.length cap) := by
  have : w.drew.heap[b]? = some (.cells #[p, .slice (some ⟨g, 0, none⟩) l.length cap] (ρ.t 72) (0, 0)) := hbk
  rw [Lib.cell_of_heap this]; rfl
 have hSD : (Builtin.unsafeSliceData_ #[(ρ.t 37)] (ρ.t 127) #[.slice (some ⟨g, 0, none⟩) l.length cap]).run P w.drew = .ok (.pointer (some ⟨g, 0, none⟩)) w.drew :=
  Lib.run_unsafeSliceData_row _ _ _ _ _ _ (by omega)
 have hUS : (Builtin.unsafeString_ #[(ρ.t 127), (ρ.t 3)] (ρ.t 9) #[.pointer (some ⟨g, 0, none⟩), .int .i64 l.length]).run P w.drew = .ok (.string ⟨l.toArray⟩) (w.drew.freeze ⟨g, 0, none⟩ l.length) :=
  Lib.run_unsafeString_row w.drew (ρ.t 127) (ρ.t 3) (ρ.t 9) (ρ.t 5) L.t127 X.cellsByte g cur.size (by have hg' : w.drew.heap[g]? = some (.cells cur (ρ.t 5) (0, 0)) := hg; simp [World.shape?, hg']) l h0 (by omega) (by unfold maxLen at hcm; omega) hcell
 have hgr : w.grownBy (w.drew.freeze ⟨g, 0, none⟩ l.length) (some g) := by
  unfold World.freeze
  rw [if_neg hl0]
  exact ⟨rfl, rfl, rfl, by show w.heap.size ≤ (Array.modify _ _ _).size; rw [Array.size_modify]; exact Nat.le_refl _, fun k _ hk => by
   simp only [Array.getElem?_modify]
   rw [if_neg (fun e => hk (by rw [← e]))]; rfl⟩
 clear hcell hcs hcm hnc hg
 have mixed := L.mixed
 have t72 := L.t72; have a72 := L.a72; have z72 := L.z72; have v72 := L.v72; have u72 := run_underlying L.t72
 have t70 := L.t70; have a70 := L.a70; have z70 := L.z70; have v70 := L.v70; have u70 := run_underlying L.t70
 have t37 := L.t37; have a37 := L.a37; have z37 := L.z37; have v37 := L.v37; have u37 := run_underlying L.t37
 have t127 := L.t127; have a127 := L.a127; have z127 := L.z127; have v127 := L.v127; have u127 := run_underlying L.t127
 have t3 := L.t3; have a3 := L.a3; have z3 := L.z3; have v3 := L.v3; have u3 := run_underlying L.t3
 have t9 := L.t9; have a9 := L.a9; have z9 := L.z9; have v9 := L.v9; have u9 := run_underlying L.t9
 have t5 := X.t5; have a5 := X.a5; have z5 := X.z5; have v5 := X.v5; have u5 := run_underlying X.t5
 go_enter L.f169, Body.n169_ntmps ρ
 go_wp2
 go_region_o
 all_goals (go_wp2; go_ret; exact ⟨rfl, hgr⟩)
end Go.Proofs
namespace Go.Proofs.YtgeakdcbpjmkbaaGreatDoor
open Go Go.Eng Go.Shelf Go.RowKit
theorem ext156 : Builder.Extra Tryz.prog Tryz.lays156_ren := { sizeBuilder := by kernel_rfl, liesBuilder := by kernel_rfl, t5 := Tryz.underlying5, a5 := Tryz.isAgg5, z5 := Tryz.sizeOf5, v5 := Tryz.zeroValue5, infoByte := by kernel_rfl, cellsByte := by kernel_rfl, sizeByte := by kernel_rfl, neB5 := by decide }
theorem ext169 : Builder.Extra Tryz.prog Tryz.lays169_ren := { sizeBuilder := by kernel_rfl, liesBuilder := by kernel_rfl, t5 := Tryz.underlying5, a5 := Tryz.isAgg5, z5 := Tryz.sizeOf5, v5 := Tryz.zeroValue5, infoByte := by kernel_rfl, cellsByte := by kernel_rfl, sizeByte := by kernel_rfl, neB5 := by decide }
theorem lays240 : Lays.n240 Tryz.prog Tryz.lays156_ren := { Tryz.lays156 with }
theorem zJoin (l : List (List UInt8)) (sep : List UInt8) (hl : (Lib.join l sep).length ≤ 2^40) (hn : l.length ≤ 2^40) : FSpec Tryz.prog 94 [.d (strs l), .d (.str sep)] [] (fun x r => x = .d (.str (Lib.join l sep)) ∧ r = []) := by
 refine FSpec.ofBelow Tryz.call94 (fun G β w vs hg hvl hd => ?_)
 match vs, hvl with
 | [u, v], _ =>
   have h0 := hd 0 _ u rfl rfl
   have h1 := hd 1 _ v rfl rfl
   cases h1 with | d _ _ h1 => cases h1 with | str _ =>
   refine ⟨.string ⟨(Lib.join l sep).toArray⟩, fun _ _ => .d _ _ (.str _), ?_⟩
   have e : Tryz.lays156_ren.f 156 = 94 := rfl
   match l, hl, hn, h0 with
   | [], _, _, h0 =>
     cases h0 with | d _ _ h0 =>
     obtain ⟨a, c, rfl⟩ : ∃ a c, u = .slice a 0 c := by
      unfold strs seqD at h0
      generalize hz : ([] : List (List UInt8)).length = z at h0
      have hz : z = 0 := hz.symm
      subst hz
      cases h0 with
      | ronil => exact ⟨_, _, rfl⟩
      | ro _ _ _ a cap => exact ⟨_, _, rfl⟩
     have hcon := Any.strings_Join_none Tryz.lays156 ext156 a c ⟨sep.toArray⟩ w
     rw [e] at hcon
     refine hcon.mono ?_
     rintro e' w' ⟨rfl, rfl⟩
     exact ⟨by rw [Lib.join_nil], Below.refl _ _⟩
   | x :: r, hl, hn, h0 =>
     cases h0 with | d _ _ h0 =>
     unfold strs seqD at h0
     generalize hz : (x :: r).length = z at h0
     cases h0 with
     | ronil => simp at hz
     | ro _ _ _ a cap vals hs hcap hmax hl2 hc hd2 =>
       obtain ⟨bk, o, sp⟩ := a
       simp only at hs; subst hs
       have hcell : ∀ (j : Nat) y, (x :: r)[j]? = some y → w.cell? ⟨bk, o + j, none⟩ = some (.string ⟨y.toArray⟩) := by
        intro j y hy
        have hj : j < z := by rw [← hz]; exact (List.getElem?_eq_some_iff.1 hy).1
        have hx : (rowF sF [] (x :: r) j)[0]? = some (DV.str y) := by simp [rowF, sF, List.getD_eq_getElem?_getD, hy]
        obtain ⟨cs, e', fr, q1, q2, q3⟩ := hc j 0 _ hj hx
        have q4 := hd2 j 0 _ hj hx
        generalize vals j 0 = vv at q3 q4
        cases q4 with | str =>
        rw [Eng.Addr.add_block] at q1
        have := hg _ _ q1
        rw [Addr.add_lit] at q3
        simp only [Nat.mul_one, Nat.add_zero] at q3
        simp only at this
        simp [World.cell?, this, q3]
       have hbk : bk < w.heap.size := by
        have hx : (rowF sF [] (x :: r) 0)[0]? = some (DV.str x) := by simp [rowF, sF]
        obtain ⟨cs, e', fr, q1, _, _⟩ := hc 0 0 _ (by rw [← hz]; simp) hx
        rw [Eng.Addr.add_block] at q1
        exact (Array.getElem?_eq_some_iff.1 (hg _ _ q1)).1
       cases r with
       | nil =>
         have hz : z = 1 := hz.symm
         subst hz
         have hcon := Any.strings_Join_one Tryz.lays156 ext156 bk o cap ⟨x.toArray⟩ ⟨sep.toArray⟩ w (by simpa using hcell 0 x rfl)
         rw [e] at hcon
         refine hcon.mono ?_
         rintro e' w' ⟨rfl, rfl⟩
         exact ⟨by rw [Lib.join_one], Below.refl _ _⟩
       | cons y r =>
         have hmm : ((x :: y :: r).map fun z : List UInt8 => (⟨z.toArray⟩ : ByteArray)).map (·.data.toList) = x :: y :: r := by rw [List.map_map]; simp [Function.comp_def]
         have hln : ((x :: y :: r).map fun z : List UInt8 => (⟨z.toArray⟩ : ByteArray)).length = z := by rw [List.length_map]; exact hz
         have hcon := Any.strings_Join_many Tryz.lays156 ext156 bk o cap ((x :: y :: r).map fun z => ⟨z.toArray⟩) ⟨sep.toArray⟩ w (fun j q hq => by
          rw [List.getElem?_map] at hq
          cases hy : (x :: y :: r)[j]? with
          | none => rw [hy] at hq; cases hq
          | some t => rw [hy] at hq; cases hq; exact hcell j t hy) hbk (by simp) (by rw [List.length_map]; omega) (by rw [hln]; exact hcap) (by rw [hmm]; simpa using Nat.le_trans hl (by decide))
         rw [e, hmm, hln] at hcon
         exact hcon
theorem FSpec.same {f : FuncId} {args : List SV} {rin : List (Nat × Res)} {y : SV} (henter : ∀ args w, (callFunc f args).run Tryz.prog w = .ok (.enter f args) w)
 (h : ∀ (G : Hp) (β : Env) (w : World) (vs : List Value), Pre G β w (lookL rin) → vs.length = args.length → (∀ (i : Nat) x v, args[i]? = some x → vs[i]? = some v → SV.Den G β x v) →
   ∃ u, SV.Den G β y u ∧ Calls Tryz.prog f vs.toArray w fun e w' => e = .returned u ∧ w' = w) : FSpec Tryz.prog f args rin (fun x r => x = y ∧ r = rin) := by
 refine ⟨henter, fun G β w vs hpre hl hd => ?_⟩
 obtain ⟨u, hu, hc⟩ := h G β w vs hpre hl hd
 refine hc.mono ?_
 rintro e w' ⟨rfl, rfl⟩
 exact ⟨u, y, _, G, β, rfl, ⟨rfl, rfl⟩, ⟨Hp.le_refl G, Env.le_refl β, hpre.gw, fun b o e => .inl e, Keep.refl _ _, hpre.rs, hpre.dj, fun d r v b h1 h2 h3 h4 => ⟨hpre.og d r v b h1 h2 h3 h4, .inl ⟨d, r, v, h1, h2, h3, h4⟩⟩⟩, hu⟩
def bNew : Res := .cells 98 [.d (.opq (.pointer none)), .d .nilsl]
def bCel (d : Nat) : Res := .cells 98 [.ptr 1000001 0, .buf d]
theorem zCopyU (e k n : Nat) (g : Nat → List DV) : FSpec Tryz.prog 151 [.ptr 1000001 0] [(1000001, bCel 1000002), (1000002, .buf e k n g)] (fun x r => x = .tup [] ∧ r = [(1000001, bCel 1000002), (1000002, .buf e k n g)]) := by
 refine FSpec.same Tryz.call151 (fun G β w vs hpre hvl hd => ?_)
 match vs, hvl with
 | [u], _ =>
   have h0 := hd 0 _ u rfl rfl
   cases h0 with | ptr _ _ b hb =>
   obtain ⟨b', cs, hb', hh, hlen, hden⟩ := hpre.rs 1000001 (bCel 1000002) (by simp [lookL])
   rw [hb] at hb'; cases hb'
   match cs, hlen with
   | [c0, c1], _ =>
     have q := hden 0 _ c0 rfl rfl
     cases q with | ptr _ _ b2 hb2 =>
     rw [hb] at hb2; cases hb2
     have hcon := Any.Builder_copyCheck_used lays240 ext156.toX72 b w (by simp [World.cell?, hh])
     have e : Tryz.lays156_ren.f 240 = 151 := rfl
     rw [e] at hcon
     exact ⟨.tuple #[], .tup [] [] rfl (by simp), hcon⟩
theorem zCopyN : FSpec Tryz.prog 151 [.ptr 1000001 0] [(1000001, bNew)] (fun x r => x = .tup [] ∧ r = [(1000001, .cells 98 [.ptr 1000001 0, .d .nilsl])]) := by
 refine ⟨Tryz.call151, fun G β w vs hpre hvl hd => ?_⟩
 match vs, hvl with
 | [u], _ =>
   have h0 := hd 0 _ u rfl rfl
   cases h0 with | ptr _ _ b hb =>
   have hR : lookL [((1000001 : Nat), bNew)] 1000001 = some bNew := by simp [lookL]
   have one : ∀ {r0 : Res} d r, lookL [((1000001 : Nat), r0)] d = some r → d = 1000001 ∧ r = r0 := by
    intro r0 d r hr
    simp only [lookL] at hr
    cases hq : Nat.beq d 1000001 with
    | false => rw [hq] at hr; cases hr
    | true => rw [hq] at hr; cases hr; exact ⟨Nat.eq_of_beq_eq_true hq, rfl⟩
   obtain ⟨b', cs, hb', hh, hlen, hden⟩ := hpre.rs 1000001 bNew hR
   rw [hb] at hb'; cases hb'
   match cs, hlen with
   | [c0, c1], _ =>
     have q0 := hden 0 _ c0 rfl rfl
     have q1 := hden 1 _ c1 rfl rfl
     cases q0 with | d _ _ q0 => cases q0 with | opq _ _ =>
     cases q1 with | d _ _ q1 => cases q1 with | nilsl =>
     have hcon := Any.Builder_copyCheck_fresh lays240 ext156.toX72 b w (by simp [World.cell?, hh]) (by simp [World.shape?, hh]; rfl) (by simp [World.frozen?, hh])
     have e : Tryz.lays156_ren.f 240 = 151 := rfl
     rw [e] at hcon
     refine hcon.mono ?_
     rintro e' w' ⟨rfl, rfl⟩
     have hTin : Tin w β (lookL [((1000001 : Nat), bNew)]) b := ⟨1000001, _, _, hR, rfl, hb, .of rfl⟩
     have hGb : G b = none := hpre.og _ _ _ b hR rfl hb (.of rfl)
     have hother : ∀ k, k ≠ b → (w.setCell ⟨b, 0, none⟩ (.pointer (some ⟨b, 0, none⟩))).heap[k]? = w.heap[k]? := fun k hk => Below.heap_setCell w ⟨b, 0, none⟩ _ k hk
     have hnew : (w.setCell ⟨b, 0, none⟩ (.pointer (some ⟨b, 0, none⟩))).heap[b]? = some (.cells #[.pointer (some ⟨b, 0, none⟩), .slice none 0 0] 98 (0, 0)) := by
      simp [World.setCell, Array.getElem?_modify, hh]
     refine ⟨_, .tup [], _, G, β, rfl, ⟨rfl, rfl⟩, ⟨Hp.le_refl G, Env.le_refl β, fun k o hk => ?_, fun k o hk => .inl hk, ⟨rfl, rfl, rfl, by simp [World.setCell], fun k _ hT => hother k (fun q => by subst q; exact hT hTin)⟩, fun d r hr => ?_, fun d d' r r' _ _ _ e1 e2 _ _ _ _ _ _ => ?_, fun d r u k e1 _ hu hbk => ?_⟩, .tup [] [] rfl (by simp)⟩
     · rw [hother k (fun q => by subst q; rw [hGb] at hk; cases hk)]; exact hpre.gw k o hk
     · obtain ⟨rfl, rfl⟩ := one d r hr
       refine ⟨b, [.pointer (some ⟨b, 0, none⟩), .slice none 0 0], hb, by simpa using hnew, rfl, fun i x v hx hv => ?_⟩
       match i, hx, hv with
       | 0, hx, hv => simp at hx hv; subst hx; subst hv; exact .ptr _ _ _ hb
       | 1, hx, hv => simp at hx hv; subst hx; subst hv; exact .d _ _ .nilsl
     · rw [(one d r e1).1, (one d' r' e2).1]
     · obtain ⟨rfl, rfl⟩ := one d r e1
       rw [hb] at hu; cases hu
       cases hbk.plain rfl
       exact ⟨hGb, .inl hTin⟩
end Go.Proofs.YtgeakdcbpjmkbaaGreatDoor
set_option maxRecDepth 20000
namespace Go.Proofs.YtgeakdcbpjmkbaaGreatDoor
open Go Go.Eng Go.Shelf Go.RowKit
theorem Res.le_byb {n m : Nat} {g h : Nat → List DV} (hn : n = m) (hg : ∀ i, i < n → g i = h i) : Res.le (.byb n g) (.byb m h) := by
 subst hn
 refine ⟨rfl, fun G β w d => ?_⟩
 rintro ⟨b, cap, cs, e, h1, h2, h3, h4, h5, h6⟩
 exact ⟨b, cap, cs, e, h1, h2, h3, h4, h5, fun i hi => by rw [← hg i hi]; exact h6 i hi⟩
theorem ext105 : Builder.Extra Tryz.prog Tryz.lays105_ren := { sizeBuilder := by kernel_rfl, liesBuilder := by kernel_rfl, t5 := Tryz.underlying5, a5 := Tryz.isAgg5, z5 := Tryz.sizeOf5, v5 := Tryz.zeroValue5, infoByte := by kernel_rfl, cellsByte := by kernel_rfl, sizeByte := by kernel_rfl, neB5 := by decide }
theorem lz139 (s : List UInt8) (k : Nat) (hk : k ≤ 2^40) (hl : s.length * k ≤ 2^40) : FSpec Tryz.prog 139 [.d (.str s), .d (.int .i64 k)] [] (fun x r => x = .d (.str (Lib.repeatL s k)) ∧ r = []) := by
 refine FSpec.ofBelow Tryz.call139 (fun G β w vs _ hvl hd => ?_)
 match vs, hvl with
 | [u, v], _ =>
   have h0 := hd 0 _ u rfl rfl
   have h1 := hd 1 _ v rfl rfl
   cases h0 with | d _ _ h0 => cases h0 with | str _ =>
   cases h1 with | d _ _ h1 => cases h1 with | int _ _ =>
   refine ⟨.string ⟨(Lib.repeatL s k).toArray⟩, fun _ _ => .d _ _ (.str _), ?_⟩
   have hcon := Any.strings_Repeat Tryz.lays105 ext105 ⟨s.toArray⟩ k w (by omega) (by rw [bsz]; omega)
   have e : Tryz.lays105_ren.f 105 = 139 := rfl
   rw [e] at hcon
   refine hcon.mono ?_
   rintro e' w' ⟨rfl, hb⟩
   exact ⟨rfl, hb⟩
theorem repeatL_rep (l : List UInt8) : ∀ k, Lib.repeatL l k = (List.replicate k l).flatten
 | 0 => rfl
 | k + 1 => by rw [Lib.repeatL, repeatL_rep l k, List.replicate_succ]; rfl
theorem rep_one (b : UInt8) (k : Nat) : Lib.repeatL [b] k = List.replicate k b := by
 rw [repeatL_rep]
 induction k with
 | zero => rfl
 | succ k ih => rw [List.replicate_succ, List.flatten_cons, ih, List.replicate_succ]; rfl
def dwE (p : Pnl) (c : Int) (ms : List Mrk) : Int := firstE [pansE [p], if ¬ (10 ≤ c ∧ c ≤ 5000) then 1 else 0, mrksE ms]
abbrev dwC (p : Pnl) (c : Int) : Int := (p.w + c - 1).tdiv c
abbrev dwR (p : Pnl) (c : Int) : Int := (p.h + c - 1).tdiv c
theorem dwE_zero {p : Pnl} {c : Int} {ms : List Mrk} (h : dwE p c ms = 0) : pansE [p] = 0 ∧ (10 ≤ c ∧ c ≤ 5000) ∧ mrksE ms = 0 ∧ (1 ≤ p.w ∧ p.w ≤ 5000) ∧ (1 ≤ p.h ∧ p.h ≤ 5000) := by
 unfold dwE at h
 simp only [firstE] at h
 obtain ⟨h1, h2, h3⟩ : pansE [p] = 0 ∧ (10 ≤ c ∧ c ≤ 5000) ∧ mrksE ms = 0 := by grind
 refine ⟨h1, h2, h3, ?_⟩
 unfold pansE at h1
 rw [if_neg (by simp)] at h1
 have := firstAt_all h1 0 (by simp)
 unfold panE at this
 have e : List.getD [p] 0 pn0 = p := rfl
 simp only [e] at this
 grind
theorem dw_dim {p : Pnl} {c : Int} (hc : 10 ≤ c ∧ c ≤ 5000) (hw : 1 ≤ p.w ∧ p.w ≤ 5000) (hh : 1 ≤ p.h ∧ p.h ≤ 5000) : (0 ≤ dwC p c ∧ dwC p c ≤ 501) ∧ (0 ≤ dwR p c ∧ dwR p c ≤ 501) ∧ (0 ≤ dwR p c * (dwC p c + 1) ∧ dwR p c * (dwC p c + 1) ≤ 501 * 502) := by
 have a1 := dwt_bd (x := p.w + c - 1) (c := c) (by omega) (by omega)
 have a2 := dwt_bd (x := p.h + c - 1) (c := c) (by omega) (by omega)
 have b1 := dwt_up (x := p.w + c - 1) (c := c) (k := 501) (by omega) (by omega) (by omega) (by omega)
 have b2 := dwt_up (x := p.h + c - 1) (c := c) (k := 501) (by omega) (by omega) (by omega) (by omega)
 have c1 : 0 ≤ dwC p c := a1.1
 have c2 : 0 ≤ dwR p c := a2.1
 have c3 : dwC p c ≤ 501 := b1
 have c4 : dwR p c ≤ 501 := b2
 exact ⟨⟨c1, c3⟩, ⟨c2, c4⟩, Int.mul_nonneg c2 (by omega), Int.mul_le_mul c4 (by omega) (by omega) (by omega)⟩
def dwOut (p : Pnl) (c : Int) (ms : List Mrk) : List UInt8 × Int := if dwE p c ms ≠ 0 then ([], dwE p c ms) else if 200000 < dwR p c * (dwC p c + 1) then ([], 2) else (dwPic p c (dwC p c) (dwR p c) ms, 0)
def keyI : List DV → Int
 | [.int _ z] => z
 | _ => 0
abbrev dwM (p : Pnl) (c : Int) (ms : List Mrk) : Res := .map false false [.int .i64] [.int .i64 0] (fun K => decide (0 < ((dwSel p c (dwC p c) ms (keyI K)).length : Int))) (fun K => [.int .i64 ((dwSel p c (dwC p c) ms (keyI K)).length : Int)])
theorem wk_i {key : List DV} (h : wk [.int .i64] key = true) : ∃ z, key = [.int .i64 z] := by
 match key, h with
 | [.int k d], h =>
   have : IntKind.i64 = k := kEq_eq (by simpa [wk, wk1] using h)
   subst this
   exact ⟨d, rfl⟩
 | .int _ _ :: _ :: _, h => simp [wk] at h
theorem keyEq_i (a b : Int) : keyEq [.int .i64 a] [.int .i64 b] = decide (a = b) := by
 rw [Bool.eq_iff_iff]; simp [keyEq, keyEq1]
theorem dwM_up {p : Pnl} {c : Int} {ms : List Mrk} {m : Mrk} {z : Int} (hz : dwAt c (dwC p c) m = z) (hm : dwOk p m = true) :
 Res.le (.map false false [.int .i64] [.int .i64 0] (fun q => keyEq q [.int .i64 z] || decide (0 < ((dwSel p c (dwC p c) ms (keyI q)).length : Int))) (fun q => bif keyEq q [.int .i64 z] then [.int .i64 (((dwSel p c (dwC p c) ms z).length : Int) + 1)] else [.int .i64 ((dwSel p c (dwC p c) ms (keyI q)).length : Int)])) (dwM p c (ms ++ [m])) := Res.le_map fun K hK => by
 obtain ⟨s, rfl⟩ := wk_i hK
 rw [keyEq_i]
 show (decide (s = z) || decide (0 < ((dwSel p c (dwC p c) ms s).length : Int))) = decide (0 < ((dwSel p c (dwC p c) (ms ++ [m]) s).length : Int)) ∧ (bif decide (s = z) then [DV.int .i64 (((dwSel p c (dwC p c) ms z).length : Int) + 1)] else [.int .i64 ((dwSel p c (dwC p c) ms s).length : Int)]) = [.int .i64 ((dwSel p c (dwC p c) (ms ++ [m]) s).length : Int)]
 rw [dwSel_snoc]
 by_cases q : s = z
 · subst q
   rw [if_pos ⟨hm, hz⟩]
   simp
 · rw [if_neg (fun e => q (e.2.symm.trans hz))]
   simp [q]
end Go.Proofs.YtgeakdcbpjmkbaaGreatDoor
set_option maxRecDepth 20000
namespace Go.Proofs.YtgeakdcbpjmkbaaGreatDoor
open Go Go.Eng Go.Shelf Go.RowKit
def oXDwD45_4 : List (Nat × List Nat) := [(0, []), (1, []), (2, [0, 1]), (3, []), (4, []), (5, [0, 1, 2, 3, 4]), (6, []), (7, [0, 1, 2, 3, 4, 5, 6]), (8, [0, 1, 2, 3, 4, 5, 6]), (9, [0, 1, 2, 3, 4, 5, 6, 7, 8]), (10, [0, 1, 2, 3, 4, 5, 6]), (11, [0, 1, 2, 3, 4, 5, 6]), (12, [0, 1, 2, 3, 4, 5, 6, 7, 8, 9, 10, 11]), (13, [0, 1, 2, 3, 4, 5, 6]), (14, [7, 8, 9, 10, 11, 12, 13]), (15, [])]
def oXDwD45_13 : List (Nat × List Nat) := [(0, []), (1, []), (2, [0, 1]), (3, []), (4, [0, 1, 2, 3]), (5, [0, 1, 2, 3]), (6, []), (7, [0, 1, 2, 3, 4, 5, 6]), (8, [0, 1, 2, 3, 4, 5, 6]), (9, [0, 1, 2, 3, 4, 5, 6, 7, 8]), (10, [0, 1, 2, 3, 4, 5, 6]), (11, []), (12, [])]
theorem mrks_zero {l : List Mrk} (h : mrksE l = 0) : l.length ≤ 60 ∧ ∀ i, i < l.length → (1 ≤ (l.getD i mk0).kind ∧ (l.getD i mk0).kind ≤ 4) ∧ (0 ≤ (l.getD i mk0).x ∧ (l.getD i mk0).x ≤ 5000) ∧ (0 ≤ (l.getD i mk0).y ∧ (l.getD i mk0).y ≤ 5000) := by
 unfold mrksE at h
 split at h
 · cases h
 · refine ⟨by omega, fun i hi => ?_⟩
   have := firstAt_all h i hi
   unfold mrkE at this
   simp only at this
   grind
theorem dwOk_iff {p : Pnl} {m : Mrk} : dwOk p m = true ↔ m.pan = p.key ∧ m.x < p.w ∧ m.y < p.h := by unfold dwOk; simp [and_assoc]
theorem dw_no {p : Pnl} {c cols : Int} {ms : List Mrk} {m : Mrk} (h : dwOk p m = false) : dwB p c cols (ms ++ [m]) = dwB p c cols ms ∧ dwSel p c cols (ms ++ [m]) = dwSel p c cols ms := by
 constructor
 · funext j; rw [dwB_snoc, if_neg (by rw [h]; simp)]
 · funext j; rw [dwSel_snoc, if_neg (by rw [h]; simp)]
theorem dw_put {p : Pnl} {c : Int} {ms : List Mrk} {m : Mrk} {v : Int} (hok : dwOk p m = true) (h0 : 0 ≤ dwAt c (dwC p c) m) (hv : v = ((dwCh ((dwSel p c (dwC p c) ms (dwAt c (dwC p c) m)).length + 1) m.kind).toNat : Int)) (j : Nat) :
 (bif Nat.beq j (dwAt c (dwC p c) m).toNat then [DV.int .u8 v] else byteD (dwB p c (dwC p c) ms j)) = byteD (dwB p c (dwC p c) (ms ++ [m]) j) := by
 rw [dwB_snoc]
 by_cases q : dwAt c (dwC p c) m = (j : Int)
 · rw [if_pos ⟨hok, q⟩]
   have e : Nat.beq j (dwAt c (dwC p c) m).toNat = true := by rw [q]; simp
   rw [e, cond_true, hv, q]; rfl
 · rw [if_neg (fun e => q e.2)]
   have e : Nat.beq j (dwAt c (dwC p c) m).toNat = false := by
    rw [← Bool.not_eq_true, Nat.beq_eq]; omega
   rw [e, cond_false]
theorem wrap_ch {n : Nat} (h : n ≤ 100) : IntKind.u8.wrap (48 + min ((n : Int) + 1) 9) = ((UInt8.ofNat (48 + min (n + 1) 9)).toNat : Int) := by
 have : ∀ k : Nat, k ≤ 9 → IntKind.u8.wrap (48 + (k : Int)) = ((UInt8.ofNat (48 + k)).toNat : Int) := by decide +kernel
 have e : min ((n : Int) + 1) 9 = ((min (n + 1) 9 : Nat) : Int) := by omega
 rw [e]
 exact this _ (by omega)
theorem lz45 (p : Pnl) (c : Int) (ms : List Mrk) (hp : pnK p) (hm : mkOk ms) (hcb : -2^40 ≤ c ∧ c ≤ 2^40) :
 FSpec Tryz.prog 45 [.agg ((pnF p).map .d), .d (.int .i64 c), .d (mrks ms)] [] (fun x r => x = .tup [.d (.str (dwOut p c ms).1), .d (.int .i64 (dwOut p c ms).2)] ∧ r = []) := by
 have C135 := s98 [p] ⟨by simp, by simpa using hp⟩
 have C138 := s192 ms hm
 have C136 := s107 (!decide (10 ≤ c ∧ c ≤ 5000)) 1
 rw [show (if (!decide (10 ≤ c ∧ c ≤ 5000)) = true then (1 : Int) else 0) = if ¬ (10 ≤ c ∧ c ≤ 5000) then 1 else 0 from by grind] at C136
 have C101 : FSpec Tryz.prog 101 [.d (ints [pansE [p], if ¬ (10 ≤ c ∧ c ≤ 5000) then 1 else 0, mrksE ms])] [] (fun x r => x = .d (.int .i64 (dwE p c ms)) ∧ r = []) := s105 _ (by simp)
 by_cases E : dwE p c ms = 0
 case neg =>
  have hO : dwOut p c ms = ([], dwE p c ms) := by unfold dwOut; rw [if_pos E]
  rw [hO]
  generalize dwE p c ms = e at *
  refine spec_of hT (C := []) Tryz.func45 rfl Tryz.call45 rfl rfl rfl ?_
  conv => whnf
  repeat' (first | (refine CallX.pure C135 ⟨SV.le_lit (l := [p]) rfl rfl, trivial⟩ rfl ?_; conv => whnf) | (refine CallX.exact (s119 c 10 5000) rfl rfl ?_; rotate_right; conv => whnf) | (refine CallX.exact (C136) rfl rfl ?_; rotate_right; conv => whnf) | (refine CallX.exact (C138) rfl rfl ?_; rotate_right; conv => whnf) | (refine CallX.pure C101 ⟨SV.le_lit rfl rfl, trivial⟩ rfl ?_; conv => whnf) | (refine br_intro ?_ ?_ <;> intro hb <;> (try simp only [brs] at hb) <;> conv => whnf) | (refine RegX.rule (id := 4) hT rfl [] oXDwD45_4 (by decide +kernel) ?_; conv => whnf) | (refine RegX.rule (id := 13) hT rfl [] oXDwD45_13 (by decide +kernel) ?_; conv => whnf) | omega | (refine And.intro ?_ ?_; ((try dsimp only); first | omega | (refine szA rfl ?_; omega) | (refine szB rfl ?_; omega) | (unfold inI64; omega) | exact rfl | (simp only [List.toList_toArray, List.length_cons, List.length_nil]; omega) | (simp only [lns] at *; omega) | decide | (unfold inI64; decide)); conv => whnf) | decide | assumption)
  refine .ret _ ?_
  conv => whnf
  refine ⟨[], ⟨?_, rfl⟩, trivial⟩
  conv => lhs; whnf
  all_goals rfl
 have hO : dwOut p c ms = if 200000 < dwR p c * (dwC p c + 1) then ([], 2) else (dwPic p c (dwC p c) (dwR p c) ms, 0) := by unfold dwOut; rw [if_neg (by simp [E])]
 rw [hO]
 rw [E] at C101
 obtain ⟨z1, z2, z3, z4, z5⟩ := dwE_zero E
 obtain ⟨⟨d1, d2⟩, ⟨d3, d4⟩, d5, d6⟩ := dw_dim z2 z4 z5
 obtain ⟨m1, m2⟩ := mrks_zero z3
 have g1 : 0 ≤ (p.w + c - 1).tdiv c := d1
 have g2 : (p.w + c - 1).tdiv c ≤ 501 := d2
 have g3 : 0 ≤ (p.h + c - 1).tdiv c := d3
 have g4 : (p.h + c - 1).tdiv c ≤ 501 := d4
 have g5 : 0 ≤ (p.h + c - 1).tdiv c * ((p.w + c - 1).tdiv c + 1) := d5
 have g6 : (p.h + c - 1).tdiv c * ((p.w + c - 1).tdiv c + 1) ≤ 501 * 502 := d6
 have hCn : (p.w + c - 1).tdiv c = ((dwC p c).toNat : Int) := (Int.toNat_of_nonneg d1).symm
 have hRn : (p.h + c - 1).tdiv c = ((dwR p c).toNat : Int) := (Int.toNat_of_nonneg d3).symm
 have C139 := lz139 [46] (dwC p c).toNat (by omega) (by simp; omega)
 rw [rep_one] at C139
 have hrep : (List.replicate (dwC p c).toNat (46 : UInt8) ++ [10]).length * (dwR p c).toNat ≤ 2^40 := by
  have h1 : (dwC p c).toNat ≤ 501 := by omega
  have h2 : (dwR p c).toNat ≤ 501 := by omega
  have := Nat.mul_le_mul (show (List.replicate (dwC p c).toNat (46 : UInt8) ++ [10]).length ≤ 502 by simp; omega) h2
  omega
 have C139b := lz139 (List.replicate (dwC p c).toNat (46 : UInt8) ++ [10]) (dwR p c).toNat (by omega) hrep
 rw [repeatL_rep, dw_empty p c (dwC p c) (dwR p c) (by omega) (by omega)] at C139b
 have hlr : (List.replicate (dwC p c).toNat (46 : UInt8)).length ≤ 501 := by simp; omega
 have hN0 : (dwPic p c (dwC p c) (dwR p c) []).length = (dwR p c).toNat * ((dwC p c).toNat + 1) := by simp [dwPic]
 have hN1 : (dwR p c).toNat * ((dwC p c).toNat + 1) ≤ 501 * 502 := Nat.mul_le_mul (by omega) (by omega)
 have f1 : inI64 ((p.w + c - 1).tdiv c) := by show inI64 (dwC p c); unfold inI64; omega
 have f2 : inI64 ((p.h + c - 1).tdiv c) := by show inI64 (dwR p c); unfold inI64; omega
 refine spec_of hT (C := []) Tryz.func45 rfl Tryz.call45 rfl rfl rfl ?_
 conv => whnf
 repeat' (first | (refine CallX.pure C135 ⟨SV.le_lit (l := [p]) rfl rfl, trivial⟩ rfl ?_; conv => whnf) | (refine CallX.exact (s119 c 10 5000) rfl rfl ?_; rotate_right; conv => whnf) | (refine CallX.exact (C136) rfl rfl ?_; rotate_right; conv => whnf) | (refine CallX.exact (C138) rfl rfl ?_; rotate_right; conv => whnf) | (refine CallX.pure C101 ⟨SV.le_lit rfl rfl, trivial⟩ rfl ?_; conv => whnf) | (refine CallX.pure C139 ⟨lr, SV.le_int hCn, trivial⟩ rfl ?_; conv => whnf) | (refine CallX.pure C139b ⟨lr, SV.le_int hRn, trivial⟩ rfl ?_; conv => whnf) | (refine And.intro (by omega) (Or.inr ?_); conv => whnf) | (refine br_intro ?_ ?_ <;> intro hb <;> (try simp only [brs] at hb) <;> conv => whnf) | (refine RegX.rule (id := 4) hT rfl [] oXDwD45_4 (by decide +kernel) ?_; conv => whnf) | (refine RegX.rule (id := 13) hT rfl [] oXDwD45_13 (by decide +kernel) ?_; conv => whnf) | omega | (refine And.intro ?_ ?_; ((try dsimp only); first | omega | (refine szA rfl ?_; omega) | (refine szB rfl ?_; omega) | (unfold inI64; omega) | exact rfl | (simp only [List.toList_toArray, List.length_cons, List.length_nil]; omega) | (simp only [lns] at *; omega) | decide | (unfold inI64; decide)); conv => whnf) | decide | assumption)
 · rw [if_pos hb]
   refine .ret _ ?_
   conv => whnf
   refine ⟨[], ⟨?_, rfl⟩, trivial⟩
   conv => lhs; whnf
   all_goals rfl
 rw [if_neg (show ¬ 200000 < dwR p c * (dwC p c + 1) by exact Int.not_lt.2 hb)]
 obtain ⟨N, hN⟩ : ∃ N, (dwR p c).toNat * ((dwC p c).toNat + 1) = N := ⟨_, rfl⟩
 refine LoopX.rule hT (C := []) (ι := Nat) (fun i => i ≤ ms.length) (fun i => mkSt [(1, .d (.int .i64 c)), (3, .ptr 3 0), (9, .d (.int .i64 ((p.w + c - 1).tdiv c))), (11, .buf 11), (12, .mp 12), (57, .d (mrks ms)), (58, .d (.int .i64 ms.length)), (59, .d (.int .i64 i))]
  [(3, .cells 69 ((pnF p).map .d)), (11, .byb N fun j => byteD (dwB p c (dwC p c) (ms.take i) j)), (12, dwM p c (ms.take i))]) (fun i => ms.length - i) 0 (by omega) ?_ ?_
 · refine Entails.mk' [(3, 3), (11, 55), (12, 56)] rfl rfl ⟨lr, lr, lr, lr, lr, lr, lr, lr, trivial⟩ ⟨rr, Res.le_byb (by rw [hN0, hN]) (fun j hj => ?_), Res.le_map (fun key hk => ?_), trivial⟩
   · rw [hN0] at hj
     have : (dwPic p c (dwC p c) (dwR p c) []).getD j 0 = dwB p c (dwC p c) [] j := by
      unfold dwPic
      rw [List.getD_eq_getElem?_getD, List.getElem?_map, List.getElem?_range hj]; rfl
     show byteD ((dwPic p c (dwC p c) (dwR p c) []).getD j 0) = _
     rw [this]; rfl
   · obtain ⟨z, rfl⟩ := wk_i hk
     exact ⟨rfl, rfl⟩
 rintro i p1
 have e1 : (i : Int).toNat = i := Int.toNat_natCast i
 have hmi : i < ms.length → _ := fun hi => m2 i hi
 rcases Nat.lt_or_ge i ms.length with hin | hin
 · obtain ⟨⟨k1, k2⟩, ⟨k3, k4⟩, k5, k6⟩ := m2 i hin
   have ht : ms.take (i + 1) = ms.take i ++ [ms.getD i mk0] := by
    rw [List.take_add_one]; simp [List.getD_eq_getElem?_getD, hin]
   have F : ∀ j, j < ms.length → ((1 ≤ (ms.getD j mk0).kind ∧ (ms.getD j mk0).kind ≤ 4) ∧ (0 ≤ (ms.getD j mk0).x.tdiv c ∧ (ms.getD j mk0).x.tdiv c ≤ 501)) ∧ (0 ≤ (ms.getD j mk0).y.tdiv c ∧ (ms.getD j mk0).y.tdiv c ≤ 501) ∧ (0 ≤ (ms.getD j mk0).y.tdiv c * ((p.w + c - 1).tdiv c + 1) ∧ (ms.getD j mk0).y.tdiv c * ((p.w + c - 1).tdiv c + 1) ≤ 501 * 502) := fun j hj => by
    obtain ⟨⟨k1, k2⟩, ⟨k3, k4⟩, k5, k6⟩ := m2 j hj
    have x1 := (dwt_bd (c := c) k3 (by omega)).1
    have y1 := (dwt_bd (c := c) k5 (by omega)).1
    have x2 := dwt_up (c := c) (k := 501) k3 (by omega) (by omega) (by omega)
    have y2 := dwt_up (c := c) (k := 501) k5 (by omega) (by omega) (by omega)
    exact ⟨⟨⟨k1, k2⟩, x1, x2⟩, ⟨y1, y2⟩, Int.mul_nonneg y1 (by omega), Int.mul_le_mul y2 (by omega) (by omega) (by omega)⟩
   obtain ⟨⟨⟨v1, v2⟩, v3, v4⟩, ⟨v5, v6⟩, v7, v8⟩ := F (i : Int).toNat (by omega)
   have hat : p.w ≤ (ms.getD i mk0).x ∨ p.h ≤ (ms.getD i mk0).y ∨ (0 ≤ (ms.getD (i : Int).toNat mk0).y.tdiv c * ((p.w + c - 1).tdiv c + 1) + (ms.getD (i : Int).toNat mk0).x.tdiv c ∧ (ms.getD (i : Int).toNat mk0).y.tdiv c * ((p.w + c - 1).tdiv c + 1) + (ms.getD (i : Int).toNat mk0).x.tdiv c < N) := by
    rw [e1]
    by_cases hx : (ms.getD i mk0).x < p.w
    · by_cases hy : (ms.getD i mk0).y < p.h
      · right; right
        have w1 := dwt_lt (c := c) k3 hx (by omega)
        have w2 := dwt_lt (c := c) k5 hy (by omega)
        have w3 := (dwt_bd (c := c) k3 (by omega)).1
        have w4 := (dwt_bd (c := c) k5 (by omega)).1
        have := dwAt_bd ⟨w3, w1⟩ ⟨w4, w2⟩
        have hNi : ((N : Nat) : Int) = (p.h + c - 1).tdiv c * ((p.w + c - 1).tdiv c + 1) := by
         rw [← hN, Int.natCast_mul, Int.natCast_add, hCn, hRn]; rfl
        rw [hNi]; exact this
      · right; left; omega
    · left; omega
   have hcnt : ∀ z, ((dwSel p c (dwC p c) (ms.take i) (keyI [DV.int .i64 z])).length : Int) ≤ 60 := fun z => by
    have h1 : (dwSel p c (dwC p c) (ms.take i) (keyI [DV.int .i64 z])).length ≤ (ms.take i).length := List.length_filter_le _ _
    have h2 : (ms.take i).length ≤ ms.length := by simp; omega
    omega
   have hcn2 := hcnt ((ms.getD (i : Int).toNat mk0).y.tdiv c * ((p.w + c - 1).tdiv c + 1) + (ms.getD (i : Int).toNat mk0).x.tdiv c)
   conv => whnf
   repeat' (first | (refine And.intro (rfl : zrow _ = some [DV.int .i64 0]) ?_; conv => whnf) | (simp only [Nat.beq_refl, cond_true]; conv => whnf) | (rw [keyEq_i, decide_eq_true rfl, cond_true]; conv => whnf) | (refine And.intro (by simp only [cond_false]; unfold inI64; omega) ?_; conv => whnf) | (refine br_intro ?_ ?_ <;> intro hb <;> (try simp only [brs] at hb) <;> conv => whnf) | (refine RegX.rule (id := 4) hT rfl [] oXDwD45_4 (by decide +kernel) ?_; conv => whnf) | (refine RegX.rule (id := 13) hT rfl [] oXDwD45_13 (by decide +kernel) ?_; conv => whnf) | omega | (refine And.intro ?_ ?_; ((try dsimp only); first | omega | (refine szA rfl ?_; omega) | (refine szB rfl ?_; omega) | (unfold inI64; omega) | exact rfl | (simp only [List.toList_toArray, List.length_cons, List.length_nil]; omega) | (simp only [lns] at *; omega) | decide | (unfold inI64; decide)); conv => whnf) | decide | assumption)
   iterate 3
    · have hno : dwOk p (ms.getD i mk0) = false := by
       rw [← Bool.not_eq_true, dwOk_iff]
       rintro ⟨a1, a2, a3⟩
       first
        | exact hb a1
        | omega
      exact ⟨i + 1, by omega, by omega, Entails.mk' [(3, 3), (11, 11), (12, 12)] rfl rfl ⟨lr, lr, lr, lr, lr, lr, lr, lr, trivial⟩ ⟨rr, Res.le_byb rfl (fun j hj => by rw [ht, (dw_no hno).1]), Res.le_map (fun K hK => by rw [ht, (dw_no hno).2]; exact ⟨rfl, rfl⟩), trivial⟩⟩
   · have hok : dwOk p (ms.getD i mk0) = true := dwOk_iff.2 ⟨by assumption, by omega, by omega⟩
     refine ⟨i + 1, by omega, by omega, Entails.mk' [(3, 3), (11, 11), (12, 12)] rfl rfl ⟨lr, lr, lr, lr, lr, lr, lr, lr, trivial⟩ ⟨rr, Res.le_byb rfl (fun j hj => ?_), ?_, trivial⟩⟩
     · rw [ht]
       refine dw_put hok (by show 0 ≤ (ms.getD i mk0).y.tdiv c * ((p.w + c - 1).tdiv c + 1) + (ms.getD i mk0).x.tdiv c; rw [e1] at hat; omega) ?_ j
       have h9 : ((dwSel p c (dwC p c) (ms.take i) (dwAt c (dwC p c) (ms.getD i mk0))).length : Int) + 1 = 1 := hb
       unfold dwCh
       rw [if_pos (by omega)]
       rfl
     · rw [ht]; exact dwM_up (m := ms.getD i mk0) rfl hok
   · have hok : dwOk p (ms.getD i mk0) = true := dwOk_iff.2 ⟨by assumption, by omega, by omega⟩
     refine ⟨i + 1, by omega, by omega, Entails.mk' [(3, 3), (11, 11), (12, 12)] rfl rfl ⟨lr, lr, lr, lr, lr, lr, lr, lr, trivial⟩ ⟨rr, Res.le_byb rfl (fun j hj => ?_), ?_, trivial⟩⟩
     · rw [ht]
       refine dw_put hok (by show 0 ≤ (ms.getD i mk0).y.tdiv c * ((p.w + c - 1).tdiv c + 1) + (ms.getD i mk0).x.tdiv c; rw [e1] at hat; omega) ?_ j
       have h9 : ¬ ((dwSel p c (dwC p c) (ms.take i) (dwAt c (dwC p c) (ms.getD i mk0))).length : Int) + 1 = 1 := hb
       have h10 : ((dwSel p c (dwC p c) (ms.take i) (dwAt c (dwC p c) (ms.getD i mk0))).length : Int) ≤ 60 := hcnt _
       unfold dwCh
       rw [if_neg (by omega)]
       exact wrap_ch (by omega)
     · rw [ht]; exact dwM_up (m := ms.getD i mk0) rfl hok
 · have hie : i = ms.length := by omega
   subst hie
   conv => whnf
   repeat' (first | (refine br_intro ?_ ?_ <;> intro hb <;> (try simp only [brs] at hb) <;> conv => whnf) | (refine RegX.rule (id := 4) hT rfl [] oXDwD45_4 (by decide +kernel) ?_; conv => whnf) | (refine RegX.rule (id := 13) hT rfl [] oXDwD45_13 (by decide +kernel) ?_; conv => whnf) | omega | (refine And.intro ?_ ?_; ((try dsimp only); first | omega | (refine szA rfl ?_; omega) | (refine szB rfl ?_; omega) | (unfold inI64; omega) | exact rfl | (simp only [List.toList_toArray, List.length_cons, List.length_nil]; omega) | (simp only [lns] at *; omega) | decide | (unfold inI64; decide)); conv => whnf) | decide | assumption)
   refine ⟨dwPic p c (dwC p c) (dwR p c) ms, ⟨by simp [dwPic, hN], fun j hj => ?_⟩, ?_⟩
   · have hj' : j < (dwR p c).toNat * ((dwC p c).toNat + 1) := by simpa [dwPic] using hj
     have : (dwPic p c (dwC p c) (dwR p c) ms).getD j 0 = dwB p c (dwC p c) ms j := by
      unfold dwPic
      rw [List.getD_eq_getElem?_getD, List.getElem?_map, List.getElem?_range hj']; rfl
     rw [this, List.take_length]
   · conv => whnf
     repeat' (first | (refine br_intro ?_ ?_ <;> intro hb <;> (try simp only [brs] at hb) <;> conv => whnf) | (refine RegX.rule (id := 4) hT rfl [] oXDwD45_4 (by decide +kernel) ?_; conv => whnf) | (refine RegX.rule (id := 13) hT rfl [] oXDwD45_13 (by decide +kernel) ?_; conv => whnf) | omega | (refine And.intro ?_ ?_; ((try dsimp only); first | omega | (refine szA rfl ?_; omega) | (refine szB rfl ?_; omega) | (unfold inI64; omega) | exact rfl | (simp only [List.toList_toArray, List.length_cons, List.length_nil]; omega) | (simp only [lns] at *; omega) | decide | (unfold inI64; decide)); conv => whnf) | decide | assumption)
     refine .ret _ ?_
     conv => whnf
     refine ⟨[], ⟨?_, rfl⟩, trivial⟩
     conv => lhs; whnf
     all_goals rfl
end Go.Proofs.YtgeakdcbpjmkbaaGreatDoor
set_option maxRecDepth 20000
namespace Go.Proofs.YtgeakdcbpjmkbaaGreatDoor
open Go Go.Eng Go.Shelf Go.RowKit
def oXDwE50_1 : List (Nat × List Nat) := [(0, []), (1, []), (2, [0, 1]), (3, []), (4, []), (5, [0, 1, 2, 3, 4]), (6, []), (7, [0, 1, 2, 3, 4, 5, 6]), (8, [0, 1, 2, 3, 4, 5, 6]), (9, [0, 1, 2, 3, 4, 5, 6, 7, 8]), (10, [0, 1, 2, 3, 4, 5, 6]), (11, [0, 1, 2, 3, 4, 5, 6]), (12, [0, 1, 2, 3, 4, 5, 6, 7, 8, 9, 10, 11]), (13, [0, 1, 2, 3, 4, 5, 6]), (14, [7, 8, 9, 10, 11, 12, 13]), (15, [])]
abbrev byR (bs : List UInt8) : Res := seqB 5 1 byteD 0 bs
def dwLast (l : List Mrk) : UInt8 := match l.getLast? with
 | none => 46
 | some m => dwSign.getD m.kind.toNat 0
theorem dwLast_snoc (l : List Mrk) (m : Mrk) : dwLast (l ++ [m]) = dwSign.getD m.kind.toNat 0 := by simp [dwLast]
theorem dw_range (f : Nat → UInt8) (k : Nat) : (List.range (k + 1)).map f = (List.range k).map f ++ [f k] := by
 rw [List.range_succ, List.map_append]; rfl
theorem dwB_row {p : Pnl} {c : Int} {ms : List Mrk} {r q : Nat} (hq : q < (dwC p c).toNat) : dwB p c (dwC p c) ms (r * ((dwC p c).toNat + 1) + q) = if (dwSel p c (dwC p c) ms ((r * ((dwC p c).toNat + 1) + q : Nat) : Int)).length ≤ 1 then dwLast (dwSel p c (dwC p c) ms ((r * ((dwC p c).toNat + 1) + q : Nat) : Int)) else UInt8.ofNat (48 + min (dwSel p c (dwC p c) ms ((r * ((dwC p c).toNat + 1) + q : Nat) : Int)).length 9) := by
 unfold dwB dwLast
 generalize dwSel p c (dwC p c) ms ((r * ((dwC p c).toNat + 1) + q : Nat) : Int) = l
 cases hl : l.getLast? with
 | none =>
   have : l = [] := by simpa using hl
   subst this
   simp only [List.length_nil]
   rw [if_pos (by omega)]
   unfold dwBase
   rw [dw_mod (by omega), if_neg (by omega)]
 | some m =>
   have h0 : l ≠ [] := fun e => by rw [e] at hl; cases hl
   have h1 : 1 ≤ l.length := List.length_pos_iff.2 h0
   simp only
   unfold dwCh
   by_cases h2 : l.length = 1
   · rw [if_pos h2, if_pos (by omega)]
   · rw [if_neg h2, if_neg (by omega)]
theorem dwB_end {p : Pnl} {c : Int} {ms : List Mrk} {r : Nat} (h : ∀ m ∈ ms, dwOk p m = true → (0 ≤ m.x.tdiv c ∧ m.x.tdiv c < dwC p c) ∧ 0 ≤ m.y.tdiv c) (h0 : 0 ≤ dwC p c) : dwB p c (dwC p c) ms (r * ((dwC p c).toNat + 1) + (dwC p c).toNat) = 10 := by
 have he : dwSel p c (dwC p c) ms ((r * ((dwC p c).toNat + 1) + (dwC p c).toNat : Nat) : Int) = [] := by
  unfold dwSel
  rw [List.filter_eq_nil_iff]
  intro m hm hh
  rw [Bool.and_eq_true] at hh
  obtain ⟨a1, a2⟩ := hh
  obtain ⟨⟨x1, x2⟩, y1⟩ := h m hm a1
  have a2 := of_decide_eq_true a2
  unfold dwAt at a2
  have e : ((r * ((dwC p c).toNat + 1) + (dwC p c).toNat : Nat) : Int) = r * (dwC p c + 1) + dwC p c := by
   rw [Int.natCast_add, Int.natCast_mul, Int.natCast_add, Int.toNat_of_nonneg h0]; rfl
  rw [e] at a2
  generalize m.y.tdiv c = Y at *
  generalize m.x.tdiv c = X at *
  generalize dwC p c = C at *
  rcases Int.lt_trichotomy Y r with k | k | k
  · have := Int.mul_le_mul_of_nonneg_right (show Y + 1 ≤ r by omega) (show 0 ≤ C + 1 by omega)
    rw [Int.add_mul, Int.one_mul] at this
    omega
  · subst k; omega
  · have := Int.mul_le_mul_of_nonneg_right (show (r : Int) + 1 ≤ Y by omega) (show 0 ≤ C + 1 by omega)
    rw [Int.add_mul, Int.one_mul] at this
    omega
 unfold dwB
 rw [he]
 simp only [List.getLast?_nil]
 unfold dwBase
 rw [dw_mod (Nat.le_refl _), if_pos rfl]
theorem wrap_ch2 {n : Nat} (h : n ≤ 100) : IntKind.u8.wrap (48 + min (n : Int) 9) = ((UInt8.ofNat (48 + min n 9)).toNat : Int) := by
 have : ∀ k : Nat, k ≤ 9 → IntKind.u8.wrap (48 + (k : Int)) = ((UInt8.ofNat (48 + k)).toNat : Int) := by decide +kernel
 have e : min (n : Int) 9 = ((min n 9 : Nat) : Int) := by omega
 rw [e]
 exact this _ (by omega)
theorem lz50 (p : Pnl) (c : Int) (ms : List Mrk) (E : dwE p c ms = 0) :
 FSpec Tryz.prog 50 [.agg ((pnF p).map .d), .d (.int .i64 c), .d (mrks ms)] [] (fun x r => x = .tup [.d (.str (if 200000 < dwR p c * (dwC p c + 1) then [] else dwPic p c (dwC p c) (dwR p c) ms)), .d (.bool (!decide (200000 < dwR p c * (dwC p c + 1))))] ∧ r = []) := by
 obtain ⟨z1, z2, z3, z4, z5⟩ := dwE_zero E
 obtain ⟨⟨d1, d2⟩, ⟨d3, d4⟩, d5, d6⟩ := dw_dim z2 z4 z5
 obtain ⟨m1, m2⟩ := mrks_zero z3
 have g1 : 0 ≤ (p.w + c - 1).tdiv c := d1
 have g2 : (p.w + c - 1).tdiv c ≤ 501 := d2
 have g3 : 0 ≤ (p.h + c - 1).tdiv c := d3
 have g4 : (p.h + c - 1).tdiv c ≤ 501 := d4
 have g5 : 0 ≤ (p.h + c - 1).tdiv c * ((p.w + c - 1).tdiv c + 1) := d5
 have g6 : (p.h + c - 1).tdiv c * ((p.w + c - 1).tdiv c + 1) ≤ 501 * 502 := d6
 have hCn : (p.w + c - 1).tdiv c = ((dwC p c).toNat : Int) := (Int.toNat_of_nonneg d1).symm
 have hRn : (p.h + c - 1).tdiv c = ((dwR p c).toNat : Int) := (Int.toNat_of_nonneg d3).symm
 have F : ∀ j, j < ms.length → ((1 ≤ (ms.getD j mk0).kind ∧ (ms.getD j mk0).kind ≤ 4) ∧ (0 ≤ (ms.getD j mk0).x.tdiv c ∧ (ms.getD j mk0).x.tdiv c ≤ 501)) ∧ (0 ≤ (ms.getD j mk0).y.tdiv c ∧ (ms.getD j mk0).y.tdiv c ≤ 501) := fun j hj => by
  obtain ⟨⟨k1, k2⟩, ⟨k3, k4⟩, k5, k6⟩ := m2 j hj
  have x1 := (dwt_bd (c := c) k3 (by omega)).1
  have y1 := (dwt_bd (c := c) k5 (by omega)).1
  have x2 := dwt_up (c := c) (k := 501) k3 (by omega) (by omega) (by omega)
  have y2 := dwt_up (c := c) (k := 501) k5 (by omega) (by omega) (by omega)
  exact ⟨⟨⟨k1, k2⟩, x1, x2⟩, ⟨y1, y2⟩⟩
 have hend : ∀ r, dwB p c (dwC p c) ms (r * ((dwC p c).toNat + 1) + (dwC p c).toNat) = 10 := fun r => dwB_end (fun m hm hok => by
  obtain ⟨j, hj, rfl⟩ := mem_getD (d := mk0) hm
  obtain ⟨_, ⟨k3, k4⟩, k5, k6⟩ := m2 j hj
  exact ⟨⟨(dwt_bd (c := c) k3 (by omega)).1, dwt_lt k3 (dwOk_iff.1 hok).2.1 (by omega)⟩, (dwt_bd (c := c) k5 (by omega)).1⟩) d1
 obtain ⟨K, hK⟩ : ∃ K, (dwC p c).toNat = K := ⟨_, rfl⟩
 obtain ⟨W, hW⟩ : ∃ W, (dwR p c).toNat = W := ⟨_, rfl⟩
 have hK5 : K ≤ 501 := by omega
 have hW5 : W ≤ 501 := by omega
 have hKW : W * (K + 1) ≤ 501 * 502 := Nat.mul_le_mul hW5 (by omega)
 refine spec_of hT (C := []) Tryz.func50 rfl Tryz.call50 rfl rfl rfl ?_
 conv => whnf
 repeat' (first | (refine br_intro ?_ ?_ <;> intro hb <;> (try simp only [brs] at hb) <;> conv => whnf) | (refine RegX.rule (id := 1) hT rfl [] oXDwE50_1 (by decide +kernel) ?_; conv => whnf) | omega | (refine And.intro ?_ ?_; ((try dsimp only); first | omega | (refine szA rfl ?_; omega) | (refine szB rfl ?_; omega) | (unfold inI64; omega) | exact rfl | (simp only [List.toList_toArray, List.length_cons, List.length_nil]; omega) | (simp only [lns] at *; omega) | decide | (unfold inI64; decide)); conv => whnf) | decide | assumption)
 · rw [if_pos hb]
   have : decide (200000 < dwR p c * (dwC p c + 1)) = true := decide_eq_true hb
   rw [this]
   refine .ret _ ?_
   conv => whnf
   refine ⟨[], ⟨?_, rfl⟩, trivial⟩
   conv => lhs; whnf
   all_goals rfl
 have hb' : ¬ 200000 < dwR p c * (dwC p c + 1) := Int.not_lt.2 hb
 rw [if_neg hb', decide_eq_false hb']
 refine LoopX.rule hT (C := []) (ι := Nat) (fun r => r ≤ W) (fun r => mkSt [(1, .d (.int .i64 c)), (2, .d (mrks ms)), (3, .ptr 3 0), (8, .d (.int .i64 ((p.w + c - 1).tdiv c))), (10, .buf 10), (36, .d (.int .i64 ((p.h + c - 1).tdiv c))), (37, .d (.int .i64 r))]
  [(3, .cells 69 ((pnF p).map .d)), (10, byR ((List.range (r * (K + 1))).map (dwB p c (dwC p c) ms)))]) (fun r => W - r) 0 (by omega) ?_ ?_
 · refine (Entails.nil 10 10 5 1 (rowF byteD 0 []) rfl rfl (by decide)).trans ?_
   exact Entails.mk' [(3, 3), (10, 10)] rfl rfl ⟨lr, lr, lr, lr, lr, lr, lr, trivial⟩ ⟨rr, by rw [Nat.zero_mul]; exact rr, trivial⟩
 rintro r p1
 conv => whnf
 repeat' (first | (refine br_intro ?_ ?_ <;> intro hb <;> (try simp only [brs] at hb) <;> conv => whnf) | (refine RegX.rule (id := 1) hT rfl [] oXDwE50_1 (by decide +kernel) ?_; conv => whnf) | omega | (refine And.intro ?_ ?_; ((try dsimp only); first | omega | (refine szA rfl ?_; omega) | (refine szB rfl ?_; omega) | (unfold inI64; omega) | exact rfl | (simp only [List.toList_toArray, List.length_cons, List.length_nil]; omega) | (simp only [lns] at *; omega) | decide | (unfold inI64; decide)); conv => whnf) | decide | assumption)
 · have hrW : r < W := by omega
   refine LoopX.rule hT (C := []) (ι := Nat) (fun q => q ≤ K) (fun q => mkSt [(1, .d (.int .i64 c)), (2, .d (mrks ms)), (3, .ptr 3 0), (8, .d (.int .i64 ((p.w + c - 1).tdiv c))), (10, .buf 10), (11, .d (.int .i64 r)), (36, .d (.int .i64 ((p.h + c - 1).tdiv c))), (37, .d (.int .i64 r)), (40, .d (.int .i64 ((p.w + c - 1).tdiv c))), (41, .d (.int .i64 q))]
    [(3, .cells 69 ((pnF p).map .d)), (10, byR ((List.range (r * (K + 1) + q)).map (dwB p c (dwC p c) ms)))]) (fun q => K - q) 0 (by omega) (by (refine Entails.mk' [(3, 3), (10, 10)] rfl rfl ?_ ?_ <;> repeat' (first | exact True.intro | exact lr | exact rr | exact SV.le_int (by omega) | exact SV.le_any _ | refine And.intro ?_ ?_)); done) ?_
   rintro q p2
   have hlen : r * (K + 1) + q + 2 ≤ 2^40 := by
    have : r * (K + 1) ≤ W * (K + 1) := Nat.mul_le_mul_right _ (by omega)
    omega
   have hlr : ((List.range (r * (K + 1) + q)).map (dwB p c (dwC p c) ms)).length = r * (K + 1) + q := by simp
   conv => whnf
   repeat' (first | (refine And.intro (by simp only [cond_false]; unfold inI64; omega) ?_; conv => whnf) | (refine And.intro (by show (((List.range (r * (K + 1) + q)).map (dwB p c (dwC p c) ms)).length + 1) * 1 ≤ 140737488355328; omega) ?_; conv => whnf) | (refine br_intro ?_ ?_ <;> intro hb <;> (try simp only [brs] at hb) <;> conv => whnf) | (refine RegX.rule (id := 1) hT rfl [] oXDwE50_1 (by decide +kernel) ?_; conv => whnf) | omega | (refine And.intro ?_ ?_; ((try dsimp only); first | omega | (refine szA rfl ?_; omega) | (refine szB rfl ?_; omega) | (unfold inI64; omega) | exact rfl | (simp only [List.toList_toArray, List.length_cons, List.length_nil]; omega) | (simp only [lns] at *; omega) | decide | (unfold inI64; decide)); conv => whnf) | decide | assumption)
   · have hqK : q < K := by omega
     refine LoopX.rule hT (C := []) (ι := Nat) (fun i => i ≤ ms.length) (fun i => mkSt [(1, .d (.int .i64 c)), (2, .d (mrks ms)), (3, .ptr 3 0), (8, .d (.int .i64 ((p.w + c - 1).tdiv c))), (10, .buf 10), (11, .d (.int .i64 r)), (12, .d (.int .i64 q)), (13, .d (.int .i64 ((dwSel p c (dwC p c) (ms.take i) ((r * (K + 1) + q : Nat) : Int)).length : Int))), (14, .d (.int .u8 ((dwLast (dwSel p c (dwC p c) (ms.take i) ((r * (K + 1) + q : Nat) : Int))).toNat : Int))), (36, .d (.int .i64 ((p.h + c - 1).tdiv c))), (37, .d (.int .i64 r)), (40, .d (.int .i64 ((p.w + c - 1).tdiv c))), (41, .d (.int .i64 q)), (44, .d (mrks ms)), (45, .d (.int .i64 ms.length)), (46, .d (.int .i64 i))]
      [(3, .cells 69 ((pnF p).map .d)), (10, byR ((List.range (r * (K + 1) + q)).map (dwB p c (dwC p c) ms)))]) (fun i => ms.length - i) 0 (by omega) (by (refine Entails.mk' [(3, 3), (10, 10)] rfl rfl ?_ ?_ <;> repeat' (first | exact True.intro | exact lr | exact rr | exact SV.le_int (by omega) | exact SV.le_any _ | refine And.intro ?_ ?_)); done) ?_
     rintro i p3
     have e1 : (i : Int).toNat = i := Int.toNat_natCast i
     have hcnt : ((dwSel p c (dwC p c) (ms.take i) ((r * (K + 1) + q : Nat) : Int)).length : Int) ≤ 60 := by
      have h1 : (dwSel p c (dwC p c) (ms.take i) ((r * (K + 1) + q : Nat) : Int)).length ≤ (ms.take i).length := List.length_filter_le _ _
      have h2 : (ms.take i).length ≤ ms.length := by simp; omega
      omega
     rcases Nat.lt_or_ge i ms.length with hin | hin
     · obtain ⟨⟨⟨v1, v2⟩, v3, v4⟩, ⟨v5, v6⟩⟩ := F (i : Int).toNat (by omega)
       have ht : ms.take (i + 1) = ms.take i ++ [ms.getD i mk0] := by
        rw [List.take_add_one]; simp [List.getD_eq_getElem?_getD, hin]
       have f1 : inI64 ((ms.getD (i : Int).toNat mk0).x.tdiv c) := by unfold inI64; omega
       have f2 : inI64 ((ms.getD (i : Int).toNat mk0).y.tdiv c) := by unfold inI64; omega
       have hit : (ms.getD i mk0).x < p.w → (dwAt c (dwC p c) (ms.getD i mk0) = ((r * (K + 1) + q : Nat) : Int) ↔ (ms.getD i mk0).x.tdiv c = q ∧ (ms.getD i mk0).y.tdiv c = r) := fun hx => by
        obtain ⟨_, ⟨k3, k4⟩, k5, k6⟩ := m2 i hin
        rw [← hK]
        exact dwAt_rc (c := c) ⟨(dwt_bd (c := c) k3 (by omega)).1, dwt_lt k3 hx (by omega)⟩ (dwt_bd (c := c) k5 (by omega)).1 (by show (q : Int) < (p.w + c - 1).tdiv c; omega)
       conv => whnf
       repeat' (first | (refine br_intro ?_ ?_ <;> intro hb <;> (try simp only [brs] at hb) <;> conv => whnf) | (refine RegX.rule (id := 1) hT rfl [] oXDwE50_1 (by decide +kernel) ?_; conv => whnf) | omega | (refine And.intro ?_ ?_; ((try dsimp only); first | omega | (refine szA rfl ?_; omega) | (refine szB rfl ?_; omega) | (unfold inI64; omega) | exact rfl | (simp only [List.toList_toArray, List.length_cons, List.length_nil]; omega) | (simp only [lns] at *; omega) | decide | (unfold inI64; decide)); conv => whnf) | decide | assumption)
       · have hok : dwOk p (ms.getD i mk0) = true := dwOk_iff.2 ⟨by assumption, by omega, by omega⟩
         have hA := (hit (by omega)).2 ⟨by assumption, by assumption⟩
         have hs : dwSel p c (dwC p c) (ms.take (i + 1)) ((r * (K + 1) + q : Nat) : Int) = dwSel p c (dwC p c) (ms.take i) ((r * (K + 1) + q : Nat) : Int) ++ [ms.getD i mk0] := by rw [ht, dwSel_snoc, if_pos ⟨hok, hA⟩]
         have hcn : ((dwSel p c (dwC p c) (ms.take (i + 1)) ((r * (K + 1) + q : Nat) : Int)).length : Int) = ((dwSel p c (dwC p c) (ms.take i) ((r * (K + 1) + q : Nat) : Int)).length : Int) + 1 := by rw [hs]; simp
         have hch : dwLast (dwSel p c (dwC p c) (ms.take (i + 1)) ((r * (K + 1) + q : Nat) : Int)) = ([46, 115, 100, 99, 107] : List UInt8).getD (ms.getD i mk0).kind.toNat 0 := by
          rw [hs, dwLast_snoc]
          obtain ⟨⟨k1, k2⟩, _⟩ := m2 i hin
          have : (ms.getD i mk0).kind = 1 ∨ (ms.getD i mk0).kind = 2 ∨ (ms.getD i mk0).kind = 3 ∨ (ms.getD i mk0).kind = 4 := by omega
          rcases this with q | q | q | q <;> rw [q] <;> rfl
         refine ⟨i + 1, by omega, by omega, ?_⟩
         rw [hcn, hch]
         exact (by (refine Entails.mk' [(3, 3), (10, 10)] rfl rfl ?_ ?_ <;> repeat' (first | exact True.intro | exact lr | exact rr | exact SV.le_int (by omega) | exact SV.le_any _ | refine And.intro ?_ ?_)); done)
       iterate 5
        · have hs : dwSel p c (dwC p c) (ms.take (i + 1)) ((r * (K + 1) + q : Nat) : Int) = dwSel p c (dwC p c) (ms.take i) ((r * (K + 1) + q : Nat) : Int) := by
           rw [ht, dwSel_snoc, if_neg]
           rintro ⟨a, b⟩
           obtain ⟨a1, a2, a3⟩ := dwOk_iff.1 a
           have h9 := (hit a2).1 b
           first
            | exact hb a1
            | omega
          refine ⟨i + 1, by omega, by omega, ?_⟩
          rw [hs]
          exact (by (refine Entails.mk' [(3, 3), (10, 10)] rfl rfl ?_ ?_ <;> repeat' (first | exact True.intro | exact lr | exact rr | exact SV.le_int (by omega) | exact SV.le_any _ | refine And.intro ?_ ?_)); done)
     · have hie : i = ms.length := by omega
       subst hie
       have hrow := dwB_row (p := p) (c := c) (ms := ms) (r := r) (q := q) (by omega)
       rw [hK] at hrow
       rw [List.take_length] at hcnt
       conv => whnf
       repeat' (first | (refine And.intro (by simp only [cond_false]; unfold inI64; omega) ?_; conv => whnf) | (refine And.intro (by show (((List.range (r * (K + 1) + q)).map (dwB p c (dwC p c) ms)).length + 1) * 1 ≤ 140737488355328; omega) ?_; conv => whnf) | (refine br_intro ?_ ?_ <;> intro hb <;> (try simp only [brs] at hb) <;> conv => whnf) | (refine RegX.rule (id := 1) hT rfl [] oXDwE50_1 (by decide +kernel) ?_; conv => whnf) | omega | (refine And.intro ?_ ?_; ((try dsimp only); first | omega | (refine szA rfl ?_; omega) | (refine szB rfl ?_; omega) | (unfold inI64; omega) | exact rfl | (simp only [List.toList_toArray, List.length_cons, List.length_nil]; omega) | (simp only [lns] at *; omega) | decide | (unfold inI64; decide)); conv => whnf) | decide | assumption)
       · have hb9 : (1 : Int) < ((dwSel p c (dwC p c) (ms.take ms.length) ((r * (K + 1) + q : Nat) : Int)).length : Int) := hb
         rw [List.take_length] at hb9
         refine ⟨q + 1, by omega, by omega, ?_⟩
         rw [show r * (K + 1) + (q + 1) = (r * (K + 1) + q) + 1 by omega, dw_range]
         refine Entails.mk' [(3, 3), (10, 100)] rfl rfl ⟨lr, lr, lr, lr, lr, lr, lr, lr, lr, lr, trivial⟩ ⟨rr, Res.le_snocF ?_, trivial⟩
         rw [hrow, if_neg (by omega)]
         show [DV.int .u8 (IntKind.u8.wrap (48 + min 9 ((dwSel p c (dwC p c) (ms.take ms.length) ((r * (K + 1) + q : Nat) : Int)).length : Int)))] = _
         rw [List.take_length, Int.min_comm, wrap_ch2 (by omega)]
         rfl
       · have hb9 : ((dwSel p c (dwC p c) (ms.take ms.length) ((r * (K + 1) + q : Nat) : Int)).length : Int) ≤ 1 := hb
         rw [List.take_length] at hb9
         refine ⟨q + 1, by omega, by omega, ?_⟩
         rw [show r * (K + 1) + (q + 1) = (r * (K + 1) + q) + 1 by omega, dw_range]
         refine Entails.mk' [(3, 3), (10, 100)] rfl rfl ⟨lr, lr, lr, lr, lr, lr, lr, lr, lr, lr, trivial⟩ ⟨rr, Res.le_snocF ?_, trivial⟩
         rw [hrow, if_pos (by omega)]
         show [DV.int .u8 ((dwLast (dwSel p c (dwC p c) (ms.take ms.length) ((r * (K + 1) + q : Nat) : Int))).toNat : Int)] = _
         rw [List.take_length]
         rfl
   · have hqK : q = K := by omega
     subst hqK
     refine ⟨r + 1, by omega, by omega, ?_⟩
     rw [show (r + 1) * (q + 1) = (r * (q + 1) + q) + 1 by rw [Nat.add_mul]; omega, dw_range]
     refine Entails.mk' [(3, 3), (10, 104)] rfl rfl ⟨lr, lr, lr, lr, lr, lr, lr, trivial⟩ ⟨rr, Res.le_snocF ?_, trivial⟩
     have := hend r
     rw [hK] at this
     rw [this]
     rfl
 · have hrW : r = W := by omega
   subst hrW
   refine ⟨(List.range (r * (K + 1))).map (dwB p c (dwC p c) ms), ⟨rfl, fun j hj => rfl⟩, ?_⟩
   conv => whnf
   repeat' (first | (refine br_intro ?_ ?_ <;> intro hb <;> (try simp only [brs] at hb) <;> conv => whnf) | (refine RegX.rule (id := 1) hT rfl [] oXDwE50_1 (by decide +kernel) ?_; conv => whnf) | omega | (refine And.intro ?_ ?_; ((try dsimp only); first | omega | (refine szA rfl ?_; omega) | (refine szB rfl ?_; omega) | (unfold inI64; omega) | exact rfl | (simp only [List.toList_toArray, List.length_cons, List.length_nil]; omega) | (simp only [lns] at *; omega) | decide | (unfold inI64; decide)); conv => whnf) | decide | assumption)
   have : dwPic p c (dwC p c) (dwR p c) ms = (List.range (r * (K + 1))).map (dwB p c (dwC p c) ms) := by unfold dwPic; rw [hK, hW]
   rw [this]
   refine .ret _ ?_
   conv => whnf
   refine ⟨[], ⟨?_, rfl⟩, trivial⟩
   conv => lhs; whnf
   all_goals rfl
end Go.Proofs.YtgeakdcbpjmkbaaGreatDoor
set_option maxRecDepth 20000
namespace Go.Proofs.YtgeakdcbpjmkbaaGreatDoor
open Go Go.Eng Go.Shelf Go.RowKit
def bytB (bs : List UInt8) : Res := .buf 5 1 bs.length fun i => byteR (bs.getD i 0)
theorem le_bytApp {bs s : List UInt8} : Res.le (.buf 5 1 (bs.length + s.length) (appGet bs.length (fun i => byteR (bs.getD i 0)) fun i => byteR (s.getD i 0))) (bytB (bs ++ s)) := by
 refine Res.le_buf (by simp) (fun i hi => ?_)
 rcases Nat.lt_or_ge i bs.length with q | q
 · rw [appGet_lt q]; simp [List.getD_eq_getElem?_getD, List.getElem?_append_left q]
 · rw [appGet_ge q]; simp [List.getD_eq_getElem?_getD, List.getElem?_append_right q]
theorem le_bytNew {s : List UInt8} : Res.le (.buf 5 1 (0 + s.length) fun i => byteR (s.getD i 0)) (bytB s) := Res.le_buf (by simp) (fun i hi => rfl)
theorem zStrN : FSpec Tryz.prog 68 [.ptr 1000001 0] [(1000001, bNew)] (fun x r => x = .d (.str []) ∧ r = []) := by
 refine ⟨Tryz.call68, fun G β w vs hpre hvl hd => ?_⟩
 match vs, hvl with
 | [u], _ =>
   have h0 := hd 0 _ u rfl rfl
   cases h0 with | ptr _ _ b hb =>
   obtain ⟨b', cs, hb', hh, hlen, hden⟩ := hpre.rs 1000001 bNew (by simp [lookL])
   rw [hb] at hb'; cases hb'
   match cs, hlen with
   | [c0, c1], _ =>
     have q0 := hden 0 _ c0 rfl rfl
     have q1 := hden 1 _ c1 rfl rfl
     cases q0 with | d _ _ q0 => cases q0 with | opq _ _ =>
     cases q1 with | d _ _ q1 => cases q1 with | nilsl =>
     have hcon := Any.Builder_String_nil Tryz.lays169 ext169 w.heap.size b (.pointer none) w (show w.heap[b]? = some (.cells #[.pointer none, .slice none 0 0] 98 (0, 0)) from by simpa using hh)
     have e : Tryz.lays169_ren.f 169 = 68 := rfl
     rw [e] at hcon
     refine hcon.mono ?_
     rintro e' w' ⟨rfl, hb2⟩
     refine ⟨_, .d (.str []), [], G, β, rfl, ⟨rfl, rfl⟩, ⟨Hp.le_refl G, Env.le_refl β, fun k o hk => ?_, fun k o hk => .inl hk, ⟨hb2.os, hb2.tape, hb2.output, hb2.size, fun k hk _ => hb2.block k hk⟩, fun d r hr => (by cases hr), fun d d' r r' _ _ _ e1 => (by cases e1), fun d r u k e1 => (by cases e1)⟩, .d _ _ (.str [])⟩
     have := hpre.gw k o hk
     rw [hb2.block k (Array.getElem?_eq_some_iff.1 this).1]; exact this
theorem zStrB (bs : List UInt8) (A : SV) : FSpec Tryz.prog 68 [.ptr 1000001 0] [(1000001, .cells 98 [A, .buf 1000002]), (1000002, bytB bs)] (fun x r => x = .d (.str bs) ∧ r = []) := by
 refine ⟨Tryz.call68, fun G β w vs hpre hvl hd => ?_⟩
 match vs, hvl with
 | [u], _ =>
   have h0 := hd 0 _ u rfl rfl
   cases h0 with | ptr _ _ b hb =>
   obtain ⟨b', cs, hb', hh, hlen, hden⟩ := hpre.rs 1000001 (.cells 98 [A, .buf 1000002]) (by simp [lookL])
   rw [hb] at hb'; cases hb'
   have hR2 : lookL [((1000001 : Nat), Res.cells 98 [A, .buf 1000002]), (1000002, bytB bs)] 1000002 = some (bytB bs) := rfl
   obtain ⟨v, xs, hv, hown, _, _, hrow⟩ := hpre.rs 1000002 _ hR2
   match cs, hlen with
   | [c0, c1], _ =>
     have q1 := hden 1 _ c1 rfl rfl
     cases q1 with | buf _ _ hb1 _ =>
     rw [hv] at hb1; cases hb1
     have hh : w.heap[b]? = some (.cells #[c0, v] 98 (0, 0)) := by simpa using hh
     have e : Tryz.lays169_ren.f 169 = 68 := rfl
     have fin : ∀ (row : Option Nat), (∀ k, row = some k → blk v = some k) → (Calls Tryz.prog 68 #[.pointer (some ⟨b, 0, none⟩)] w fun e w' => e = .returned (.string ⟨bs.toArray⟩) ∧ w.grownBy w' row) →
      Calls Tryz.prog 68 #[.pointer (some ⟨b, 0, none⟩)] w fun e w' => ∃ v' x rout G' β', e = .returned v' ∧ (x = .d (.str bs) ∧ rout = []) ∧ Out G β w (lookL [(1000001, .cells 98 [A, .buf 1000002]), (1000002, bytB bs)]) G' β' w' (lookL rout) ∧ SV.Den G' β' x v' := by
      intro row hrow' hc
      refine hc.mono ?_
      rintro e' w' ⟨rfl, hgb⟩
      refine ⟨_, .d (.str bs), [], G, β, rfl, ⟨rfl, rfl⟩, ⟨Hp.le_refl G, Env.le_refl β, fun k o hk => ?_, fun k o hk => .inl hk, ⟨hgb.os, hgb.tape, hgb.output, hgb.size, fun k hk hT => ?_⟩, fun d r hr => (by cases hr), fun d d' r r' _ _ _ e1 => (by cases e1), fun d r u k e1 => (by cases e1)⟩, .d _ _ (.str bs)⟩
      · have := hpre.gw k o hk
        rw [hgb.block k (Array.getElem?_eq_some_iff.1 this).1 (fun q => by have := hpre.og 1000002 _ v k hR2 rfl hv (.of (hrow' k q.symm)); rw [hk] at this; cases this)]; exact this
      · exact hgb.block k hk (fun q => hT ⟨1000002, _, _, hR2, rfl, hv, .of (hrow' k q.symm)⟩)
     have fromB : (Calls Tryz.prog 68 #[.pointer (some ⟨b, 0, none⟩)] w fun e w' => e = .returned (.string ⟨bs.toArray⟩) ∧ Below w.heap.size w w') → Calls Tryz.prog 68 #[.pointer (some ⟨b, 0, none⟩)] w fun e w' => e = .returned (.string ⟨bs.toArray⟩) ∧ w.grownBy w' none :=
      fun hc => hc.mono fun e w' ⟨h1, h2⟩ => ⟨h1, ⟨h2.os, h2.tape, h2.output, h2.size, fun k hk _ => h2.block k hk⟩⟩
     rcases hown.2 with ⟨rfl, hz⟩ | ⟨g, cap, cur, rfl, hbg, hg, hnc, hcm, hcs, htake⟩
     · have : bs = [] := List.eq_nil_of_length_eq_zero hz
       subst this
       have hcon := Any.Builder_String_nil Tryz.lays169 ext169 w.heap.size b c0 w hh
       rw [e] at hcon
       exact fin none (by simp) (fromB hcon)
     · by_cases hb0 : bs = []
       · subst hb0
         by_cases hc0 : cap = 0
         · subst hc0
           have hcon := Any.Builder_String_noroom Tryz.lays169 ext169 w.heap.size b g c0 cur w (Nat.le_refl _) hh hg
           rw [e] at hcon
           exact fin none (by simp) (fromB hcon)
         · have hcon := Any.Builder_String_room Tryz.lays169 ext169 w.heap.size b g cap c0 w hc0 hh
           rw [e] at hcon
           exact fin none (by simp) (fromB hcon)
       · have hcells := hown.cells (g := g) rfl
         have hcon := bldString Tryz.lays169 ext169 b g cap c0 cur bs w hb0 hh hg hnc hcm hcs (fun j x hx => by
          have hj : j < bs.length := (List.getElem?_eq_some_iff.1 hx).1
          obtain ⟨u, hu, hud⟩ := hrow j 0 (.int .u8 ((bs.getD j 0).toNat : Int)) hj rfl
          cases hud with | int =>
          rw [Nat.mul_one, Nat.add_zero] at hu
          have := hcells j _ hu
          have hx' : bs.getD j 0 = x := by simp [List.getD_eq_getElem?_getD, hx]
          rw [hx'] at this
          exact this)
         rw [e] at hcon
         exact fin (some g) (fun k hk => by cases hk; rfl) hcon
theorem zWrN (s : List UInt8) (hs : s.length ≤ 2^36) : FSpec Tryz.prog 65 [.ptr 1000001 0, .d (.str s)] [(1000001, bNew)] (fun x r => x = .tup [.d (.int .i64 s.length), .d (.opq .nilIface)] ∧ r = [(1000001, bCel 14), (14, bytB s)]) := by
 refine spec_of hT (C := []) Tryz.func65 rfl Tryz.call65 rfl rfl rfl ?_
 conv => whnf
 repeat' (first | (refine CallX.of zCopyN [(1000001, 1000001)] rfl ⟨lr, trivial⟩ ⟨rr, trivial⟩ rfl rfl ?_; rintro x rout ⟨rfl, rfl⟩; refine ⟨rfl, ?_⟩; conv => whnf) | (refine br_intro ?_ ?_ <;> intro hb <;> (try simp only [brs] at hb) <;> conv => whnf) | omega | (refine And.intro ?_ ?_; ((try dsimp only); first | omega | (refine szA rfl ?_; omega) | (refine szB rfl ?_; omega) | (unfold inI64; omega) | exact rfl | (simp only [List.toList_toArray, List.length_cons, List.length_nil]; omega) | (simp only [lns] at *; omega) | decide | (unfold inI64; decide)); conv => whnf) | decide | assumption)
 refine .ret _ ?_
 conv => whnf
 refine ⟨[(1000001, bCel 14), (14, bytB s)], ⟨congrArg SV.tup ?_, rfl⟩, rr, le_bytNew, trivial⟩
 repeat' (refine cons_eq ?_ ?_)
 all_goals (conv => lhs; whnf)
theorem zWrB (bs s : List UInt8) (hs : bs.length + s.length ≤ 2^36) : FSpec Tryz.prog 65 [.ptr 1000001 0, .d (.str s)] [(1000001, bCel 1000002), (1000002, bytB bs)] (fun x r => x = .tup [.d (.int .i64 s.length), .d (.opq .nilIface)] ∧ r = [(1000001, bCel 14), (14, bytB (bs ++ s))]) := by
 refine spec_of hT (C := []) Tryz.func65 rfl Tryz.call65 rfl rfl rfl ?_
 conv => whnf
 repeat' (first | (refine CallX.of (zCopyU 5 1 bs.length fun i => byteR (bs.getD i 0)) [(1000001, 1000001), (1000002, 1000002)] rfl ⟨lr, trivial⟩ ⟨rr, rr, trivial⟩ rfl rfl ?_; rintro x rout ⟨rfl, rfl⟩; refine ⟨rfl, ?_⟩; conv => whnf) | (refine br_intro ?_ ?_ <;> intro hb <;> (try simp only [brs] at hb) <;> conv => whnf) | omega | (refine And.intro ?_ ?_; ((try dsimp only); first | omega | (refine szA rfl ?_; omega) | (refine szB rfl ?_; omega) | (unfold inI64; omega) | exact rfl | (simp only [List.toList_toArray, List.length_cons, List.length_nil]; omega) | (simp only [lns] at *; omega) | decide | (unfold inI64; decide)); conv => whnf) | decide | assumption)
 refine .ret _ ?_
 conv => whnf
 refine ⟨[(1000001, bCel 14), (14, bytB (bs ++ s))], ⟨congrArg SV.tup ?_, rfl⟩, rr, le_bytApp, trivial⟩
 repeat' (refine cons_eq ?_ ?_)
 all_goals (conv => lhs; whnf)
abbrev Part := Int ⊕ List UInt8
def partF : Part → List DV
 | .inl n => [.ifc 3 (.int .i64 n)]
 | .inr s => [.ifc 9 (.str s)]
def partS : Part → List UInt8
 | .inl n => Lib.itoa n
 | .inr s => s
def part0 : Part := .inr []
def partOk (p : Part) : Prop := match p with | .inl n => -9223372036854775808 ≤ n ∧ n ≤ 9223372036854775807 | .inr _ => True
theorem zWJoin (l : List Part) (hl : l.length ≤ 2^20) (hk : ∀ p ∈ l, partOk p) (hj : (Lib.join (l.map partS) [32]).length ≤ 2^40) : FSpec Tryz.prog 66 [.d (seqD 1 partF part0 l)] kx (fun x r => x = .d (.str (Lib.join (l.map partS) [32])) ∧ r = kx) := by
 refine spec_of hT (C := []) Tryz.func66 rfl Tryz.call66 rfl rfl rfl ?_
 conv => whnf
 refine LoopX.rule hT (C := []) (ι := Nat) (fun i => i ≤ l.length) (fun i => mkSt [(3, .buf 3), (8, .d (seqD 1 partF part0 l)), (9, .d (.int .i64 l.length)), (10, .d (.int .i64 i))] [(1000009, KX), (3, seqB 9 1 sF [] ((l.take i).map partS))]) (fun i => l.length - i) 0 (by simp) ?_ ?_
 · exact (Entails.nil 3 3 9 1 (rowF sF [] []) rfl rfl (by decide)).trans (by (refine Entails.mk' [(1000009, 1000009), (3, 3)] rfl rfl ?_ ?_ <;> repeat' (first | exact True.intro | exact lr | exact rr | exact SV.le_int (by omega) | exact SV.le_any _ | refine And.intro ?_ ?_)); done)
 intro i hi
 conv => whnf
 repeat' (first | (refine br_intro ?_ ?_ <;> intro hb <;> (try simp only [brs] at hb) <;> conv => whnf) | omega | (refine And.intro ?_ ?_; ((try dsimp only); first | omega | (refine szA rfl ?_; omega) | (refine szB rfl ?_; omega) | (unfold inI64; omega) | exact rfl | (simp only [List.toList_toArray, List.length_cons, List.length_nil]; omega) | (simp only [lns] at *; omega) | decide | (unfold inI64; decide)); conv => whnf) | decide | assumption)
 · have hlt : i < l.length := by simpa using hb
   have hln : ((l.take i).map partS).length = i := by simp; omega
   have hsn : (l.take (i + 1)).map partS = (l.take i).map partS ++ [partS (l.getD i part0)] := by
    have : l.take (i + 1) = l.take i ++ [l.getD i part0] := by rw [List.take_add_one]; simp [List.getD_eq_getElem?_getD, hlt]
    rw [this, List.map_append]; rfl
   have hpk := hk _ (getD_mem (x := part0) hlt)
   have hpf : rowF partF part0 l (i : Int).toNat = partF (l.getD i part0) := rfl
   cases hp : l.getD i part0 with
   | inl n =>
     rw [hp] at hpk hsn
     rw [hpf, hp]
     conv => whnf
     repeat' (first | (refine CallX.kn (zItoa n hpk.1 hpk.2) rfl rfl rfl rfl ?_; conv => whnf) | (refine br_intro ?_ ?_ <;> intro hb <;> (try simp only [brs] at hb) <;> conv => whnf) | omega | (refine And.intro ?_ ?_; ((try dsimp only); first | omega | (refine szA rfl ?_; omega) | (refine szB rfl ?_; omega) | (unfold inI64; omega) | exact rfl | (simp only [List.toList_toArray, List.length_cons, List.length_nil]; omega) | (simp only [lns] at *; omega) | decide | (unfold inI64; decide)); conv => whnf) | decide | assumption)
     refine ⟨i + 1, by omega, by omega, ?_⟩
     rw [hsn]
     exact (by (refine Entails.mk' [(1000009, 1000009), (3, 22)] rfl rfl ?_ ?_ <;> repeat' (first | exact True.intro | exact lr | exact rr | (exact Res.le_snocF rfl) | exact SV.le_int (by omega) | exact SV.le_any _ | refine And.intro ?_ ?_)); done)
   | inr s =>
     rw [hp] at hsn
     rw [hpf, hp]
     conv => whnf
     repeat' (first | (refine br_intro ?_ ?_ <;> intro hb <;> (try simp only [brs] at hb) <;> conv => whnf) | omega | (refine And.intro ?_ ?_; ((try dsimp only); first | omega | (refine szA rfl ?_; omega) | (refine szB rfl ?_; omega) | (unfold inI64; omega) | exact rfl | (simp only [List.toList_toArray, List.length_cons, List.length_nil]; omega) | (simp only [lns] at *; omega) | decide | (unfold inI64; decide)); conv => whnf) | decide | assumption)
     refine ⟨i + 1, by omega, by omega, ?_⟩
     rw [hsn]
     exact (by (refine Entails.mk' [(1000009, 1000009), (3, 29)] rfl rfl ?_ ?_ <;> repeat' (first | exact True.intro | exact lr | exact rr | (exact Res.le_snocF rfl) | exact SV.le_int (by omega) | exact SV.le_any _ | refine And.intro ?_ ?_)); done)
 · have hi2 : i = l.length := by omega
   subst hi2
   rw [List.take_length]
   refine CallX.freeze _ _ _ _ 3 9 1 _ _ rfl rfl ?_
   conv => whnf
   repeat' (first | (refine CallX.exact (zJoin (l.map partS) [32] hj (by simp; omega)) rfl rfl ?_; rotate_right; conv => whnf) | (refine br_intro ?_ ?_ <;> intro hb <;> (try simp only [brs] at hb) <;> conv => whnf) | omega | (refine And.intro ?_ ?_; ((try dsimp only); first | omega | (refine szA rfl ?_; omega) | (refine szB rfl ?_; omega) | (unfold inI64; omega) | exact rfl | (simp only [List.toList_toArray, List.length_cons, List.length_nil]; omega) | (simp only [lns] at *; omega) | decide | (unfold inI64; decide)); conv => whnf) | decide | assumption)
   refine .ret _ ?_
   conv => whnf
   refine ⟨kx, ⟨?_, rfl⟩, rr, trivial⟩
   conv => lhs; whnf
def isAtoi (s : List UInt8) : Bool := match Lib.atoiAll s with | .ok n => Lib.itoa n == s | _ => false
def numN (s : List UInt8) : Int := match Lib.atoiAll s with | .ok n => n | .range => Lib.atoiSat s | _ => 0
def numOk (s : List UInt8) : Bool := isAtoi s && decide ((Lib.trimPrefix s [45]).length ≤ 9)
def digs : List UInt8 := [48, 49, 50, 51, 52, 53, 54, 55, 56, 57]
theorem digit_mem (u : Nat) (h : u < 10) : digs.contains (UInt8.ofNat (48 + u)) = true := by
 have : ∀ u, u < 10 → digs.contains (UInt8.ofNat (48 + u)) = true := by decide
 exact this u h
theorem dec_digits : ∀ (n u : Nat), u < n → Lib.decDigits u ≠ [] ∧ ∀ b ∈ Lib.decDigits u, digs.contains b = true := by
 intro n
 induction n with
 | zero => intro u h; omega
 | succ n ih =>
   intro u hu
   rw [Lib.decDigits]
   split
   · rename_i h
     exact ⟨by simp, fun b hb => by rw [List.mem_singleton] at hb; subst hb; exact digit_mem u h⟩
   · rename_i h
     refine ⟨by simp, fun b hb => ?_⟩
     rcases List.mem_append.1 hb with q | q
     · exact (ih (u / 10) (by omega)).2 b q
     · rw [List.mem_singleton] at q; subst q; exact digit_mem _ (Nat.mod_lt _ (by decide))
theorem trim_itoa (n : Int) : Lib.trimPrefix (Lib.itoa n) [45] = Lib.decDigits n.natAbs := by
 unfold Lib.itoa
 split
 · rename_i h
   simp [Lib.trimPrefix, Lib.hasPrefix]
 · rename_i h
   have hn : n.toNat = n.natAbs := by omega
   rw [hn]
   obtain ⟨h1, h2⟩ := dec_digits (n.natAbs + 1) n.natAbs (by omega)
   cases hd : Lib.decDigits n.natAbs with
   | nil => exact absurd hd h1
   | cons b r =>
     have hb := h2 b (by rw [hd]; exact List.mem_cons_self)
     have hne : b ≠ 45 := fun e => by subst e; revert hb; decide
     have hne' : ¬ 45 = b := fun e => hne e.symm
     simp [Lib.trimPrefix, Lib.hasPrefix, hne']
theorem isAtoi_digits {s : List UInt8} (h : isAtoi s = true) : Lib.trimPrefix s [45] ≠ [] ∧ onlyB (Lib.trimPrefix s [45]) digs = true := by
 unfold isAtoi at h
 split at h
 · rename_i n hn
   have he : Lib.itoa n = s := by simpa using h
   rw [← he, trim_itoa]
   obtain ⟨h1, h2⟩ := dec_digits (n.natAbs + 1) n.natAbs (by omega)
   exact ⟨h1, List.all_eq_true.2 h2⟩
 · cases h
def badNum (s : List UInt8) : Bool := ((Lib.trimPrefix s [45] == []) || decide (9 < (Lib.trimPrefix s [45]).length)) || !onlyB (Lib.trimPrefix s [45]) digs
theorem numOk_eq (s : List UInt8) : (if badNum s = true then false else isAtoi s) = numOk s := by
 unfold numOk badNum
 cases h : isAtoi s with
 | false => simp
 | true =>
   obtain ⟨h1, h2⟩ := isAtoi_digits h
   have h3 : (Lib.trimPrefix s [45] == []) = false := by simpa using h1
   rw [h2, h3]
   simp
   by_cases h9 : 9 < (Lib.trimPrefix s [45]).length
   · simp [h9]
   · simp [h9]; omega
def lnsF {α : Type} (tk : List UInt8 → α → Bool × α) : Nat → Nat → List UInt8 → α → (Nat × Bool) × α
 | 0, at', _, a => ((at', false), a)
 | n + 1, at', t, a => if t = [] then ((0, true), a) else
    if (Lib.cut t [10]).2.2 = false then ((at', false), a) else
    if (tk (Lib.cut t [10]).1 a).1 = false then ((at', false), (tk (Lib.cut t [10]).1 a).2) else lnsF tk n (at' + 1) (Lib.cut t [10]).2.1 (tk (Lib.cut t [10]).1 a).2
theorem cut_len {t : List UInt8} (h : (Lib.cut t [10]).2.2 = true) : (Lib.cut t [10]).1.length + (Lib.cut t [10]).2.1.length + 1 = t.length := by
 have hge := Lib.index_ge t [10]
 unfold Lib.cut at h ⊢
 split at h
 · rename_i h0
   rw [if_pos h0]
   have hr := Lib.index_room t [10] h0
   simp only [List.length_take, List.length_drop, List.length_singleton] at hr ⊢
   omega
 · cases h
theorem cut_le (t : List UInt8) : (Lib.cut t [10]).1.length ≤ t.length := by
 unfold Lib.cut
 split
 · simp; omega
 · simp
theorem lxF_pos {p : Nat → Bool} {n k : Nat} (hk : k < n) (h : p k = true) : 0 ≤ ixF p n := by
 have hb := ixF_bd (p := p) (n := n)
 rcases Int.lt_or_le (ixF p n) 0 with q | q
 · exfalso
   have hn : ∀ m, ixF p m < 0 → ∀ j, j < m → p j = false := by
    intro m
    induction m with
    | zero => intro _ j hj; omega
    | succ m ih =>
      intro hm j hj
      rw [ixF] at hm
      split at hm
      · rename_i hz
        by_cases hjm : j = m
        · subst hjm
          split at hm
          · omega
          · rename_i hf; simpa using hf
        · exact ih (by omega) j (by omega)
      · rename_i hz; have := (ixF_bd (p := p) (n := m)).1; omega
   rw [hn n q k hk] at h
   cases h
 · exact q
theorem ix_mem (l : List (List UInt8)) (v : List UInt8) : decide (0 ≤ ixF (fun i => l.getD i [] == v) l.length) = decide (v ∈ l) := by
 rw [decide_eq_decide]
 constructor
 · intro h
   have := ixF_bd (p := fun i => l.getD i [] == v) (n := l.length)
   rw [← eq_of_beq (this.2.2 h)]
   exact getD_mem (by omega)
 · intro h
   obtain ⟨j, hj, rfl⟩ := mem_getD (d := []) h
   exact lxF_pos hj (by simp)
theorem lz143 (l : List (List UInt8)) (hl : l.length ≤ 2^40) (v : List UInt8) : FSpec Tryz.prog 143 [.d (strs l), .d (.str v)] [] (fun x r => x = .d (.int .i64 (ixF (fun i => l.getD i [] == v) l.length)) ∧ r = []) := by
 refine spec_of hT (C := []) Tryz.func143 rfl Tryz.call143 rfl rfl rfl ?_
 conv => whnf
 refine LoopX.rule hT (C := []) (ι := Nat) (fun i => i ≤ l.length ∧ ∀ j, j < i → (l.getD j [] == v) = false) (fun i => mkSt [(0, .d (strs l)), (1, .d (.str v)), (7, .d (.int .i64 l.length)), (8, .d (.int .i64 i))] []) (fun i => l.length - i) 0 ⟨by simp, fun j hj => absurd hj (Nat.not_lt_zero j)⟩ (by (refine Entails.mk' [] rfl rfl ?_ ?_ <;> repeat' (first | exact True.intro | exact lr | exact rr | exact SV.le_int (by omega) | exact SV.le_any _ | refine And.intro ?_ ?_)); done) ?_
 rintro i ⟨p1, p2⟩
 have e1 : (i : Int).toNat = i := Int.toNat_natCast i
 conv => whnf
 repeat' (first | (refine br_intro ?_ ?_ <;> intro hb <;> (try simp only [brs] at hb) <;> conv => whnf) | omega | (refine And.intro ?_ ?_; ((try dsimp only); first | omega | (refine szA rfl ?_; omega) | (refine szB rfl ?_; omega) | (unfold inI64; omega) | exact rfl | (simp only [List.toList_toArray, List.length_cons, List.length_nil]; omega) | (simp only [lns] at *; omega) | decide | (unfold inI64; decide)); conv => whnf) | decide | assumption)
 · refine .ret _ ?_
   conv => whnf
   refine ⟨[], ⟨?_, rfl⟩, trivial⟩
   conv => lhs; whnf
   congr 2
   exact (ixF_hit (by omega) p2 (by rw [← hb]; simp)).symm
 · exact ⟨i + 1, ⟨by omega, all_step p2 (beq_eq_false_iff_ne.2 fun q => hb q.symm)⟩, by omega, (by (refine Entails.mk' [] rfl rfl ?_ ?_ <;> repeat' (first | exact True.intro | exact lr | exact rr | exact SV.le_int (by omega) | exact SV.le_any _ | refine And.intro ?_ ?_)); done)⟩
 · refine .ret _ ?_
   conv => whnf
   refine ⟨[], ⟨?_, rfl⟩, trivial⟩
   conv => lhs; whnf
   congr 2
   have : i = l.length := by omega
   subst this
   exact (ixF_none p2).symm
theorem lz78 (l : List (List UInt8)) (hl : l.length ≤ 2^40) (v : List UInt8) : FSpec Tryz.prog 78 [.d (strs l), .d (.str v)] [] (fun x r => x = .d (.bool (decide (v ∈ l))) ∧ r = []) := by
 refine spec_of hT (C := []) Tryz.func78 rfl Tryz.call78 rfl rfl rfl ?_
 conv => whnf
 repeat' (first | (refine CallX.exact (lz143 l hl v) rfl rfl ?_; rotate_right; conv => whnf) | (refine br_intro ?_ ?_ <;> intro hb <;> (try simp only [brs] at hb) <;> conv => whnf) | omega | (refine And.intro ?_ ?_; ((try dsimp only); first | omega | (refine szA rfl ?_; omega) | (refine szB rfl ?_; omega) | (unfold inI64; omega) | exact rfl | (simp only [List.toList_toArray, List.length_cons, List.length_nil]; omega) | (simp only [lns] at *; omega) | decide | (unfold inI64; decide)); conv => whnf) | decide | assumption)
 refine .ret _ ?_
 conv => whnf
 refine ⟨[], ⟨?_, rfl⟩, trivial⟩
 conv => lhs; whnf
 rw [← ix_mem]
theorem atoi_bd {s : List UInt8} {v : Int} (h : Lib.atoiAll s = .ok v) : -9223372036854775808 ≤ v ∧ v ≤ 9223372036854775807 := by
 unfold Lib.atoiAll at h
 split at h
 · cases h
 · simp only at h
   split at h
   · cases h
   · cases h
   · split at h
     · cases h
     · split at h
       · cases h
       · cases h
         rename_i h1 h2
         split
         · rename_i hq
           simp [hq] at h2
           omega
         · rename_i hq
           simp [hq] at h1
           omega
theorem lz129 (s : List UInt8) (hs : s.length ≤ 2^40) : FSpec Tryz.prog 129 [.d (.str s)] kx (fun x r => x = .tup [.d (.int .i64 (numN s)), .d (.bool (numOk s))] ∧ r = kx) := by
 refine spec_of hT (C := []) Tryz.func129 rfl Tryz.call129 rfl rfl rfl ?_
 conv => whnf
 refine CallX.of (zAtoi s hs) [(1000009, 1000009)] rfl ⟨lr, trivial⟩ ⟨rr, trivial⟩ rfl rfl ?_
 rintro x rout ⟨hx, rfl⟩
 unfold atoiX at hx
 cases hA : Lib.atoiAll s with
 | ok v =>
   rw [hA] at hx
   simp only at hx
   subst hx
   obtain ⟨hv0, hv1⟩ := atoi_bd hA
   refine ⟨rfl, ?_⟩
   conv => whnf
   repeat' (first | (refine CallX.exact (zTrimP s [45]) rfl rfl ?_; rotate_right; conv => whnf) | (refine CallX.kn (zItoa v hv0 hv1) rfl rfl rfl rfl ?_; conv => whnf) | (refine br_intro ?_ ?_ <;> intro hb <;> (try simp only [brs] at hb) <;> conv => whnf) | omega | (refine And.intro ?_ ?_; ((try dsimp only); first | omega | (refine szA rfl ?_; omega) | (refine szB rfl ?_; omega) | (unfold inI64; omega) | exact rfl | (simp only [List.toList_toArray, List.length_cons, List.length_nil]; omega) | (simp only [lns] at *; omega) | decide | (unfold inI64; decide)); conv => whnf) | decide | assumption)
   · refine .ret _ ?_
     conv => whnf
     refine ⟨kx, ⟨congrArg SV.tup ?_, rfl⟩, rr, trivial⟩
     repeat' (refine cons_eq ?_ ?_)
     all_goals (conv => lhs; whnf)
     all_goals try (with_reducible rfl)
     · unfold numN; rw [hA]
     · unfold numOk isAtoi; rw [hA]; simp [hb]; omega
   · refine .ret _ ?_
     conv => whnf
     refine ⟨kx, ⟨congrArg SV.tup ?_, rfl⟩, rr, trivial⟩
     repeat' (refine cons_eq ?_ ?_)
     all_goals (conv => lhs; whnf)
     all_goals try (with_reducible rfl)
     · unfold numN; rw [hA]
     · unfold numOk isAtoi; rw [hA]; simp [hb]
 | range =>
   rw [hA] at hx
   simp only at hx
   obtain ⟨t, p, rfl⟩ := hx
   refine ⟨rfl, ?_⟩
   conv => whnf
   repeat' (first | (refine br_intro ?_ ?_ <;> intro hb <;> (try simp only [brs] at hb) <;> conv => whnf) | omega | (refine And.intro ?_ ?_; ((try dsimp only); first | omega | (refine szA rfl ?_; omega) | (refine szB rfl ?_; omega) | (unfold inI64; omega) | exact rfl | (simp only [List.toList_toArray, List.length_cons, List.length_nil]; omega) | (simp only [lns] at *; omega) | decide | (unfold inI64; decide)); conv => whnf) | decide | assumption)
   refine .ret _ ?_
   conv => whnf
   refine ⟨kx, ⟨congrArg SV.tup ?_, rfl⟩, rr, trivial⟩
   repeat' (refine cons_eq ?_ ?_)
   all_goals (conv => lhs; whnf)
   all_goals try (with_reducible rfl)
   · unfold numN; rw [hA]
   · unfold numOk isAtoi; rw [hA]; rfl
 | _ =>
   rw [hA] at hx
   simp only at hx
   obtain ⟨t, p, rfl⟩ := hx
   refine ⟨rfl, ?_⟩
   conv => whnf
   repeat' (first | (refine br_intro ?_ ?_ <;> intro hb <;> (try simp only [brs] at hb) <;> conv => whnf) | omega | (refine And.intro ?_ ?_; ((try dsimp only); first | omega | (refine szA rfl ?_; omega) | (refine szB rfl ?_; omega) | (unfold inI64; omega) | exact rfl | (simp only [List.toList_toArray, List.length_cons, List.length_nil]; omega) | (simp only [lns] at *; omega) | decide | (unfold inI64; decide)); conv => whnf) | decide | assumption)
   refine .ret _ ?_
   conv => whnf
   refine ⟨kx, ⟨congrArg SV.tup ?_, rfl⟩, rr, trivial⟩
   repeat' (refine cons_eq ?_ ?_)
   all_goals (conv => lhs; whnf)
   all_goals try (with_reducible rfl)
   · unfold numN; rw [hA]
   · unfold numOk isAtoi; rw [hA]; rfl
theorem lz131 (s : List UInt8) (hs : s.length ≤ 2^40) : FSpec Tryz.prog 131 [.d (.str s)] kx (fun x r => x = .tup [.d (.int .i64 (bif badNum s then 0 else numN s)), .d (.bool (numOk s))] ∧ r = kx) := by
 have ht : (Lib.trimPrefix s [45]).length ≤ 2^40 := by
  unfold Lib.trimPrefix
  split
  · simp; omega
  · exact hs
 refine spec_of hT (C := []) Tryz.func131 rfl Tryz.call131 rfl rfl rfl ?_
 conv => whnf
 repeat' (first | (refine CallX.exact (zTrimP s [45]) rfl rfl ?_; rotate_right; conv => whnf) | (refine CallX.exact (s111 (Lib.trimPrefix s [45]) digs ht (by decide) (by decide)) rfl rfl ?_; rotate_right; conv => whnf) | (refine br_intro ?_ ?_ <;> intro hb <;> (try simp only [brs] at hb) <;> conv => whnf) | omega | (refine And.intro ?_ ?_; ((try dsimp only); first | omega | (refine szA rfl ?_; omega) | (refine szB rfl ?_; omega) | (unfold inI64; omega) | exact rfl | (simp only [List.toList_toArray, List.length_cons, List.length_nil]; omega) | (simp only [lns] at *; omega) | decide | (unfold inI64; decide)); conv => whnf) | decide | assumption)
 · have hq : badNum s = true := by unfold badNum; simp [hb]
   refine .ret _ ?_
   conv => whnf
   refine ⟨kx, ⟨congrArg SV.tup ?_, rfl⟩, rr, trivial⟩
   repeat' (refine cons_eq ?_ ?_)
   all_goals (conv => lhs; whnf)
   all_goals try (with_reducible rfl)
   · rw [hq]; rfl
   · rw [← numOk_eq, if_pos hq]
 · have hq : badNum s = true := by unfold badNum; have : 9 < (Lib.trimPrefix s [45]).length := by omega
                                   simp [this]
   refine .ret _ ?_
   conv => whnf
   refine ⟨kx, ⟨congrArg SV.tup ?_, rfl⟩, rr, trivial⟩
   repeat' (refine cons_eq ?_ ?_)
   all_goals (conv => lhs; whnf)
   all_goals try (with_reducible rfl)
   · rw [hq]; rfl
   · rw [← numOk_eq, if_pos hq]
 · have hq : badNum s = true := by unfold badNum; simp [hb]
   refine .ret _ ?_
   conv => whnf
   refine ⟨kx, ⟨congrArg SV.tup ?_, rfl⟩, rr, trivial⟩
   repeat' (refine cons_eq ?_ ?_)
   all_goals (conv => lhs; whnf)
   all_goals try (with_reducible rfl)
   · rw [hq]; rfl
   · rw [← numOk_eq, if_pos hq]
 rename_i hb1 hb2
 have hq : badNum s = false := by
  unfold badNum
  have : ¬ 9 < (Lib.trimPrefix s [45]).length := by omega
  simp [hb, hb1, this]
 rw [hq]
 have hk : isAtoi s = numOk s := by rw [← numOk_eq, hq]; rfl
 refine CallX.of (zAtoi s hs) [(1000009, 1000009)] rfl ⟨lr, trivial⟩ ⟨rr, trivial⟩ rfl rfl ?_
 rintro x rout ⟨hx, rfl⟩
 unfold atoiX at hx
 cases hA : Lib.atoiAll s with
 | ok v =>
   rw [hA] at hx
   simp only at hx
   subst hx
   obtain ⟨hv0, hv1⟩ := atoi_bd hA
   refine ⟨rfl, ?_⟩
   conv => whnf
   repeat' (first | (refine CallX.kn (zItoa v hv0 hv1) rfl rfl rfl rfl ?_; conv => whnf) | (refine br_intro ?_ ?_ <;> intro hb <;> (try simp only [brs] at hb) <;> conv => whnf) | omega | (refine And.intro ?_ ?_; ((try dsimp only); first | omega | (refine szA rfl ?_; omega) | (refine szB rfl ?_; omega) | (unfold inI64; omega) | exact rfl | (simp only [List.toList_toArray, List.length_cons, List.length_nil]; omega) | (simp only [lns] at *; omega) | decide | (unfold inI64; decide)); conv => whnf) | decide | assumption)
   refine .ret _ ?_
   conv => whnf
   refine ⟨kx, ⟨congrArg SV.tup ?_, rfl⟩, rr, trivial⟩
   repeat' (refine cons_eq ?_ ?_)
   all_goals (conv => lhs; whnf)
   all_goals try (with_reducible rfl)
   · unfold numN; rw [hA]; rfl
   · rw [← hk]; unfold isAtoi; rw [hA]
 | range =>
   rw [hA] at hx
   simp only at hx
   obtain ⟨t, p, rfl⟩ := hx
   refine ⟨rfl, ?_⟩
   conv => whnf
   repeat' (first | (refine br_intro ?_ ?_ <;> intro hb <;> (try simp only [brs] at hb) <;> conv => whnf) | omega | (refine And.intro ?_ ?_; ((try dsimp only); first | omega | (refine szA rfl ?_; omega) | (refine szB rfl ?_; omega) | (unfold inI64; omega) | exact rfl | (simp only [List.toList_toArray, List.length_cons, List.length_nil]; omega) | (simp only [lns] at *; omega) | decide | (unfold inI64; decide)); conv => whnf) | decide | assumption)
   refine .ret _ ?_
   conv => whnf
   refine ⟨kx, ⟨congrArg SV.tup ?_, rfl⟩, rr, trivial⟩
   repeat' (refine cons_eq ?_ ?_)
   all_goals (conv => lhs; whnf)
   all_goals try (with_reducible rfl)
   · unfold numN; rw [hA]; rfl
   · rw [← hk]; unfold isAtoi; rw [hA]
 | _ =>
   rw [hA] at hx
   simp only at hx
   obtain ⟨t, p, rfl⟩ := hx
   refine ⟨rfl, ?_⟩
   conv => whnf
   repeat' (first | (refine br_intro ?_ ?_ <;> intro hb <;> (try simp only [brs] at hb) <;> conv => whnf) | omega | (refine And.intro ?_ ?_; ((try dsimp only); first | omega | (refine szA rfl ?_; omega) | (refine szB rfl ?_; omega) | (unfold inI64; omega) | exact rfl | (simp only [List.toList_toArray, List.length_cons, List.length_nil]; omega) | (simp only [lns] at *; omega) | decide | (unfold inI64; decide)); conv => whnf) | decide | assumption)
   refine .ret _ ?_
   conv => whnf
   refine ⟨kx, ⟨congrArg SV.tup ?_, rfl⟩, rr, trivial⟩
   repeat' (refine cons_eq ?_ ?_)
   all_goals (conv => lhs; whnf)
   all_goals try (with_reducible rfl)
   · unfold numN; rw [hA]; rfl
   · rw [← hk]; unfold isAtoi; rw [hA]
theorem split_len (s p : List UInt8) (hp : p ≠ []) : (Lib.split s p).length ≤ s.length + 1 := by
 have key : ∀ (n : Nat) (s : List UInt8), s.length ≤ n → ∀ k, (Lib.splitK p 0 k s).length ≤ s.length + 1 := by
  intro n
  induction n with
  | zero =>
    intro s hs k
    cases k with
    | zero => simp [Lib.splitK]
    | succ k =>
      unfold Lib.splitK
      split
      · simp
      · rename_i h
        have := Lib.drop_shorter hp h
        omega
  | succ n ih =>
    intro s hs k
    cases k with
    | zero => simp [Lib.splitK]
    | succ k =>
      unfold Lib.splitK
      split
      · simp
      · rename_i h
        have h1 := Lib.drop_shorter hp h
        have h2 := ih (s.drop ((Lib.index s p).toNat + p.length)) (by omega) k
        simp only [List.length_cons]
        omega
 exact key s.length s (Nat.le_refl _) _
theorem split_mem {s p : List UInt8} {x : List UInt8} (h : x ∈ Lib.split s p) : x.length ≤ s.length := by
 have key : ∀ (k : Nat) (s : List UInt8), ∀ x ∈ Lib.splitK p 0 k s, x.length ≤ s.length := by
  intro k
  induction k with
  | zero => intro s x hx; simp [Lib.splitK] at hx; subst hx; exact Nat.le_refl _
  | succ k ih =>
    intro s x hx
    unfold Lib.splitK at hx
    split at hx
    · simp at hx; subst hx; exact Nat.le_refl _
    · rcases List.mem_cons.1 hx with q | q
      · subst q; simp; omega
      · have := ih _ x q; simp at this; omega
 exact key _ s x h
def wrdsOk (l : List (List UInt8)) : Bool := !decide ([] ∈ l)
theorem lz96 (s : List UInt8) (hs : s.length ≤ 2^30) : FSpec Tryz.prog 96 [.d (.str s)] kx (fun x r => x = .tup [.d (strs (Lib.split s [32])), .d (.bool (wrdsOk (Lib.split s [32])))] ∧ r = kx) := by
 have hl := split_len s [32] (by decide)
 refine spec_of hT (C := []) Tryz.func96 rfl Tryz.call96 rfl rfl rfl ?_
 conv => whnf
 repeat' (first | (refine CallX.kn (zSplit s [32] (by omega) (by decide)) rfl rfl rfl rfl ?_; conv => whnf) | (refine CallX.exact (lz78 (Lib.split s [32]) (by omega) []) rfl rfl ?_; rotate_right; conv => whnf) | (refine br_intro ?_ ?_ <;> intro hb <;> (try simp only [brs] at hb) <;> conv => whnf) | omega | (refine And.intro ?_ ?_; ((try dsimp only); first | omega | (refine szA rfl ?_; omega) | (refine szB rfl ?_; omega) | (unfold inI64; omega) | exact rfl | (simp only [List.toList_toArray, List.length_cons, List.length_nil]; omega) | (simp only [lns] at *; omega) | decide | (unfold inI64; decide)); conv => whnf) | decide | assumption)
 refine .ret _ ?_
 conv => whnf
 refine ⟨kx, ⟨congrArg SV.tup ?_, rfl⟩, rr, trivial⟩
 repeat' (refine cons_eq ?_ ?_)
 all_goals (conv => lhs; whnf)
 all_goals try (with_reducible rfl)
 all_goals rfl
theorem lz98 (s : List UInt8) (hs : s.length ≤ 2^30) : FSpec Tryz.prog 98 [.d (.str s)] kx (fun x r => x = .tup [.d (strs (Lib.split s [32])), .d (.bool (wrdsOk (Lib.split s [32])))] ∧ r = kx) := by
 have hl := split_len s [32] (by decide)
 refine spec_of hT (C := []) Tryz.func98 rfl Tryz.call98 rfl rfl rfl ?_
 conv => whnf
 repeat' (first | (refine CallX.kn (zSplit s [32] (by omega) (by decide)) rfl rfl rfl rfl ?_; conv => whnf) | (refine CallX.exact (lz78 (Lib.split s [32]) (by omega) []) rfl rfl ?_; rotate_right; conv => whnf) | (refine br_intro ?_ ?_ <;> intro hb <;> (try simp only [brs] at hb) <;> conv => whnf) | omega | (refine And.intro ?_ ?_; ((try dsimp only); first | omega | (refine szA rfl ?_; omega) | (refine szB rfl ?_; omega) | (unfold inI64; omega) | exact rfl | (simp only [List.toList_toArray, List.length_cons, List.length_nil]; omega) | (simp only [lns] at *; omega) | decide | (unfold inI64; decide)); conv => whnf) | decide | assumption)
 refine .ret _ ?_
 conv => whnf
 refine ⟨kx, ⟨congrArg SV.tup ?_, rfl⟩, rr, trivial⟩
 repeat' (refine cons_eq ?_ ?_)
 all_goals (conv => lhs; whnf)
 all_goals try (with_reducible rfl)
 all_goals rfl
theorem numR_ok {s : List UInt8} (h : numOk s = true) : (bif badNum s then 0 else numN s) = numN s := by
 have := numOk_eq s
 rw [h] at this
 cases hb : badNum s with
 | true => rw [hb] at this; cases this
 | false => rfl
theorem lz79 (l : List (List UInt8)) (hl : l.length ≤ 2^30) (hk : ∀ x ∈ l, x.length ≤ 2^40) : FSpec Tryz.prog 79 [.d (strs l)] kx (fun x r => x = .tup [.d (bif l.all numOk then ints (l.map numN) else .nilsl), .d (.bool (l.all numOk))] ∧ r = kx) := by
 refine spec_of hT (C := []) Tryz.func79 rfl Tryz.call79 rfl rfl rfl ?_
 conv => whnf
 refine LoopX.rule hT (C := []) (ι := Nat) (fun i => i ≤ l.length ∧ ∀ j, j < i → numOk (l.getD j []) = true) (fun i => mkSt [(4, .buf 4), (9, .d (strs l)), (10, .d (.int .i64 l.length)), (11, .d (.int .i64 i))] [(1000009, KX), (4, seqB 3 1 iF 0 ((l.take i).map numN))]) (fun i => l.length - i) 0 ⟨by simp, fun j hj => absurd hj (Nat.not_lt_zero j)⟩ ?_ ?_
 · exact (Entails.nil 4 4 3 1 (rowF iF 0 []) rfl rfl (by decide)).trans (by (refine Entails.mk' [(1000009, 1000009), (4, 4)] rfl rfl ?_ ?_ <;> repeat' (first | exact True.intro | exact lr | exact rr | exact SV.le_int (by omega) | exact SV.le_any _ | refine And.intro ?_ ?_)); done)
 rintro i ⟨hi, hp⟩
 have hln : ((l.take i).map numN).length = i := by simp; omega
 conv => whnf
 refine br_intro (fun hb => ?_) (fun hb => ?_)
 · conv => whnf
   have hlt : i < l.length := by simpa using hb
   have hx : l.getD i [] ∈ l := getD_mem hlt
   have hc := lz129 (l.getD i []) (hk _ hx)
   cases hn : numOk (l.getD i []) with
   | true =>
     rw [hn] at hc
     skip
     repeat' (first | (refine CallX.kn hc rfl rfl rfl rfl ?_; conv => whnf) | (refine br_intro ?_ ?_ <;> intro hb <;> (try simp only [brs] at hb) <;> conv => whnf) | omega | (refine And.intro ?_ ?_; ((try dsimp only); first | omega | (refine szA rfl ?_; omega) | (refine szB rfl ?_; omega) | (unfold inI64; omega) | exact rfl | (simp only [List.toList_toArray, List.length_cons, List.length_nil]; omega) | (simp only [lns] at *; omega) | decide | (unfold inI64; decide)); conv => whnf) | decide | assumption)
     have hsn : (l.take (i + 1)).map numN = (l.take i).map numN ++ [numN (l.getD i [])] := by
      have : l.take (i + 1) = l.take i ++ [l.getD i []] := by rw [List.take_add_one]; simp [List.getD_eq_getElem?_getD, hlt]
      rw [this, List.map_append]; rfl
     refine ⟨i + 1, ⟨by omega, all_step hp hn⟩, by omega, ?_⟩
     rw [hsn]
     exact (by (refine Entails.mk' [(1000009, 1000009), (4, 25)] rfl rfl ?_ ?_ <;> repeat' (first | exact True.intro | exact lr | exact rr | (exact Res.le_snocF rfl) | exact SV.le_int (by omega) | exact SV.le_any _ | refine And.intro ?_ ?_)); done)
   | false =>
     rw [hn] at hc
     have hall : l.all numOk = false := by
      rw [Bool.eq_false_iff]
      intro h
      have := List.all_eq_true.1 h _ hx
      rw [hn] at this; cases this
     repeat' (first | (refine CallX.kn hc rfl rfl rfl rfl ?_; conv => whnf) | (refine br_intro ?_ ?_ <;> intro hb <;> (try simp only [brs] at hb) <;> conv => whnf) | omega | (refine And.intro ?_ ?_; ((try dsimp only); first | omega | (refine szA rfl ?_; omega) | (refine szB rfl ?_; omega) | (unfold inI64; omega) | exact rfl | (simp only [List.toList_toArray, List.length_cons, List.length_nil]; omega) | (simp only [lns] at *; omega) | decide | (unfold inI64; decide)); conv => whnf) | decide | assumption)
     rw [hall]
     refine .ret _ ?_
     conv => whnf
     refine ⟨kx, ⟨congrArg SV.tup ?_, rfl⟩, rr, trivial⟩
     repeat' (refine cons_eq ?_ ?_)
     all_goals (conv => lhs; whnf)
     all_goals try (with_reducible rfl)
     all_goals rfl
 · conv => whnf
   have hi2 : i = l.length := by simp at hb; omega
   subst hi2
   rw [List.take_length]
   have hall : l.all numOk = true := List.all_eq_true.2 fun x hx => by
    obtain ⟨j, hj, rfl⟩ := mem_getD (d := []) hx
    exact hp j hj
   rw [hall]
   repeat' (first | (refine br_intro ?_ ?_ <;> intro hb <;> (try simp only [brs] at hb) <;> conv => whnf) | omega | (refine And.intro ?_ ?_; ((try dsimp only); first | omega | (refine szA rfl ?_; omega) | (refine szB rfl ?_; omega) | (unfold inI64; omega) | exact rfl | (simp only [List.toList_toArray, List.length_cons, List.length_nil]; omega) | (simp only [lns] at *; omega) | decide | (unfold inI64; decide)); conv => whnf) | decide | assumption)
   refine .freeze _ 4 3 1 _ _ rfl ?_
   refine .ret _ ?_
   conv => whnf
   refine ⟨kx, ⟨congrArg SV.tup ?_, rfl⟩, rr, trivial⟩
   repeat' (refine cons_eq ?_ ?_)
   all_goals (conv => lhs; whnf)
   all_goals try (with_reducible rfl)
   all_goals rfl
theorem lz83 (l : List (List UInt8)) (hl : l.length ≤ 2^30) (hk : ∀ x ∈ l, x.length ≤ 2^40) : FSpec Tryz.prog 83 [.d (strs l)] kx (fun x r => x = .tup [.d (bif l.all numOk then ints (l.map numN) else .nilsl), .d (.bool (l.all numOk))] ∧ r = kx) := by
 refine spec_of hT (C := []) Tryz.func83 rfl Tryz.call83 rfl rfl rfl ?_
 conv => whnf
 refine LoopX.rule hT (C := []) (ι := Nat) (fun i => i ≤ l.length ∧ ∀ j, j < i → numOk (l.getD j []) = true) (fun i => mkSt [(4, .buf 4), (9, .d (strs l)), (10, .d (.int .i64 l.length)), (11, .d (.int .i64 i))] [(1000009, KX), (4, seqB 3 1 iF 0 ((l.take i).map numN))]) (fun i => l.length - i) 0 ⟨by simp, fun j hj => absurd hj (Nat.not_lt_zero j)⟩ ?_ ?_
 · exact (Entails.nil 4 4 3 1 (rowF iF 0 []) rfl rfl (by decide)).trans (by (refine Entails.mk' [(1000009, 1000009), (4, 4)] rfl rfl ?_ ?_ <;> repeat' (first | exact True.intro | exact lr | exact rr | exact SV.le_int (by omega) | exact SV.le_any _ | refine And.intro ?_ ?_)); done)
 rintro i ⟨hi, hp⟩
 have hln : ((l.take i).map numN).length = i := by simp; omega
 conv => whnf
 refine br_intro (fun hb => ?_) (fun hb => ?_)
 · conv => whnf
   have hlt : i < l.length := by simpa using hb
   have hx : l.getD i [] ∈ l := getD_mem hlt
   have hc := lz131 (l.getD i []) (hk _ hx)
   cases hn : numOk (l.getD i []) with
   | true =>
     rw [hn] at hc
     rw [numR_ok hn] at hc
     repeat' (first | (refine CallX.kn hc rfl rfl rfl rfl ?_; conv => whnf) | (refine br_intro ?_ ?_ <;> intro hb <;> (try simp only [brs] at hb) <;> conv => whnf) | omega | (refine And.intro ?_ ?_; ((try dsimp only); first | omega | (refine szA rfl ?_; omega) | (refine szB rfl ?_; omega) | (unfold inI64; omega) | exact rfl | (simp only [List.toList_toArray, List.length_cons, List.length_nil]; omega) | (simp only [lns] at *; omega) | decide | (unfold inI64; decide)); conv => whnf) | decide | assumption)
     have hsn : (l.take (i + 1)).map numN = (l.take i).map numN ++ [numN (l.getD i [])] := by
      have : l.take (i + 1) = l.take i ++ [l.getD i []] := by rw [List.take_add_one]; simp [List.getD_eq_getElem?_getD, hlt]
      rw [this, List.map_append]; rfl
     refine ⟨i + 1, ⟨by omega, all_step hp hn⟩, by omega, ?_⟩
     rw [hsn]
     exact (by (refine Entails.mk' [(1000009, 1000009), (4, 25)] rfl rfl ?_ ?_ <;> repeat' (first | exact True.intro | exact lr | exact rr | (exact Res.le_snocF rfl) | exact SV.le_int (by omega) | exact SV.le_any _ | refine And.intro ?_ ?_)); done)
   | false =>
     rw [hn] at hc
     have hall : l.all numOk = false := by
      rw [Bool.eq_false_iff]
      intro h
      have := List.all_eq_true.1 h _ hx
      rw [hn] at this; cases this
     repeat' (first | (refine CallX.kn hc rfl rfl rfl rfl ?_; conv => whnf) | (refine br_intro ?_ ?_ <;> intro hb <;> (try simp only [brs] at hb) <;> conv => whnf) | omega | (refine And.intro ?_ ?_; ((try dsimp only); first | omega | (refine szA rfl ?_; omega) | (refine szB rfl ?_; omega) | (unfold inI64; omega) | exact rfl | (simp only [List.toList_toArray, List.length_cons, List.length_nil]; omega) | (simp only [lns] at *; omega) | decide | (unfold inI64; decide)); conv => whnf) | decide | assumption)
     rw [hall]
     refine .ret _ ?_
     conv => whnf
     refine ⟨kx, ⟨congrArg SV.tup ?_, rfl⟩, rr, trivial⟩
     repeat' (refine cons_eq ?_ ?_)
     all_goals (conv => lhs; whnf)
     all_goals try (with_reducible rfl)
     all_goals rfl
 · conv => whnf
   have hi2 : i = l.length := by simp at hb; omega
   subst hi2
   rw [List.take_length]
   have hall : l.all numOk = true := List.all_eq_true.2 fun x hx => by
    obtain ⟨j, hj, rfl⟩ := mem_getD (d := []) hx
    exact hp j hj
   rw [hall]
   repeat' (first | (refine br_intro ?_ ?_ <;> intro hb <;> (try simp only [brs] at hb) <;> conv => whnf) | omega | (refine And.intro ?_ ?_; ((try dsimp only); first | omega | (refine szA rfl ?_; omega) | (refine szB rfl ?_; omega) | (unfold inI64; omega) | exact rfl | (simp only [List.toList_toArray, List.length_cons, List.length_nil]; omega) | (simp only [lns] at *; omega) | decide | (unfold inI64; decide)); conv => whnf) | decide | assumption)
   refine .freeze _ 4 3 1 _ _ rfl ?_
   refine .ret _ ?_
   conv => whnf
   refine ⟨kx, ⟨congrArg SV.tup ?_, rfl⟩, rr, trivial⟩
   repeat' (refine cons_eq ?_ ?_)
   all_goals (conv => lhs; whnf)
   all_goals try (with_reducible rfl)
   all_goals rfl
abbrev capC (ct d : Nat) : Res := .cells ct [.buf d]
def Taker {α : Type} (g ct e k : Nat) (F : α → List DV) (d : α) (tk : List UInt8 → List α → Bool × List α) : Prop :=
 (∀ line l, (tk line l).2.length ≤ l.length + 1) ∧ ∀ line l, line.length ≤ 2^20 → l.length ≤ 2^21 →
   FSpec Tryz.prog g [.d (.str line), .ptr 1000005 0] [(1000009, KX), (1000005, capC ct 1000003), (1000003, seqB e k F d l)] (fun x r => x = .d (.bool (tk line l).1) ∧ r = [(1000009, KX), (1000005, capC ct 46), (46, seqB e k F d (tk line l).2)])
theorem lz75 {α : Type} {g ct e k : Nat} {F : α → List DV} {d : α} {tk : List UInt8 → List α → Bool × List α} (hg : Taker g ct e k F d tk) (text : List UInt8) (ht : text.length ≤ 2^20) (l0 : List α) (hl0 : l0.length ≤ 2^20) :
 FSpec Tryz.prog 75 [.d (.str text), .fn g [.ptr 1000005 0]] [(1000009, KX), (1000005, capC ct 1000003), (1000003, seqB e k F d l0)] (fun x r => x = .tup [.d (.int .i64 (lnsF tk (text.length + 1) 0 text l0).1.1), .d (.bool (lnsF tk (text.length + 1) 0 text l0).1.2)] ∧
  r = [(1000009, KX), (1000005, capC ct 40), (40, seqB e k F d (lnsF tk (text.length + 1) 0 text l0).2)]) := by
 generalize hR : lnsF tk (text.length + 1) 0 text l0 = R
 refine spec_of hT (C := []) Tryz.func75 rfl Tryz.call75 rfl rfl rfl ?_
 conv => whnf
 refine LoopX.rule hT (C := []) (ι := Nat × Nat × List UInt8 × List α) (fun (n, a, t, l) => (lnsF tk n a t l = R ∧ t.length < n) ∧ t.length + a ≤ text.length ∧ l.length ≤ l0.length + a)
  (fun (n, a, t, l) => mkSt [(0, .d (.str t)), (1, .fn g [.ptr 1000005 0]), (6, .d (.int .i64 a))] [(1000009, KX), (1000005, capC ct 40), (40, seqB e k F d l)])
  (fun (n, _, _, _) => n) (text.length + 1, 0, text, l0) ⟨⟨hR, Nat.lt_succ_self _⟩, Nat.le_refl _, by simp⟩ (by (refine Entails.mk' [(1000009, 1000009), (1000005, 1000005), (40, 1000003)] rfl rfl ?_ ?_ <;> repeat' (first | exact True.intro | exact lr | exact rr | exact SV.le_int (by omega) | exact SV.le_any _ | refine And.intro ?_ ?_)); done) ?_
 rintro ⟨n, a, t, l⟩ ⟨⟨h1, h2⟩, h3, h4⟩
 obtain ⟨m, rfl⟩ : ∃ m, n = m + 1 := ⟨n - 1, by omega⟩
 have hcl := cut_le t
 have htl : (tk (Lib.cut t [10]).1 l).2.length ≤ l.length + 1 := hg.1 _ _
 have hc := hg.2 (Lib.cut t [10]).1 l (by omega) (by omega)
 conv => whnf
 repeat' (first | (refine CallX.kn (zCut t [10] (by omega)) rfl rfl rfl rfl ?_; conv => whnf) | (refine CallX.of hc [(1000009, 1000009), (1000005, 1000005), (1000003, 40), (46, 41)] rfl ⟨lr, lr, trivial⟩ ⟨rr, rr, rr, trivial⟩ rfl rfl ?_; rintro x rout ⟨rfl, rfl⟩; refine ⟨rfl, ?_⟩; conv => whnf) | (refine br_intro ?_ ?_ <;> intro hb <;> (try simp only [brs] at hb) <;> conv => whnf) | omega | (refine And.intro ?_ ?_; ((try dsimp only); first | omega | (refine szA rfl ?_; omega) | (refine szB rfl ?_; omega) | (unfold inI64; omega) | exact rfl | (simp only [List.toList_toArray, List.length_cons, List.length_nil]; omega) | (simp only [lns] at *; omega) | decide | (unfold inI64; decide)); conv => whnf) | decide | assumption)
 · rename_i hb0
   obtain rfl : R = ((a, false), l) := by rw [← h1]; simp [lnsF, hb0, hb]
   refine .ret _ ?_
   conv => whnf
   refine ⟨[(1000009, KX), (1000005, capC ct 40), (40, seqB e k F d l)], ⟨congrArg SV.tup ?_, rfl⟩, rr, rr, rr, trivial⟩
   repeat' (refine cons_eq ?_ ?_)
   all_goals (conv => lhs; whnf)
   all_goals rfl
 · rename_i hb0 hb1
   obtain rfl : R = ((a, false), (tk (Lib.cut t [10]).1 l).2) := by rw [← h1]; simp [lnsF, hb0, hb1, hb]
   refine .ent _ (mkSt [(4, .d (.int .i64 a)), (5, .d (.bool false))] [(1000009, KX), (1000005, capC ct 40), (40, seqB e k F d (tk (Lib.cut t [10]).1 l).2)]) (by (refine Entails.mk' [(1000009, 1000009), (1000005, 1000005), (40, 41)] rfl rfl ?_ ?_ <;> repeat' (first | exact True.intro | exact lr | exact rr | exact SV.le_int (by omega) | exact SV.le_any _ | refine And.intro ?_ ?_)); done) ?_
   refine .ret _ ?_
   conv => whnf
   refine ⟨[(1000009, KX), (1000005, capC ct 40), (40, seqB e k F d (tk (Lib.cut t [10]).1 l).2)], ⟨congrArg SV.tup ?_, rfl⟩, rr, rr, rr, trivial⟩
   repeat' (refine cons_eq ?_ ?_)
   all_goals (conv => lhs; whnf)
   all_goals rfl
 · rename_i hb0 hb1
   have hlen := cut_len hb1
   refine ⟨(m, a + 1, (Lib.cut t [10]).2.1, (tk (Lib.cut t [10]).1 l).2), ⟨⟨by rw [← h1]; simp [lnsF, hb0, hb1, hb], by omega⟩, by omega, by omega⟩, Nat.lt_succ_self m, (by (refine Entails.mk' [(1000009, 1000009), (1000005, 1000005), (40, 41)] rfl rfl ?_ ?_ <;> repeat' (first | exact True.intro | exact lr | exact rr | exact SV.le_int (by omega) | exact SV.le_any _ | refine And.intro ?_ ?_)); done)⟩
 · obtain rfl : R = ((0, true), l) := by rw [← h1]; simp [lnsF, hb]
   refine .ret _ ?_
   conv => whnf
   refine ⟨[(1000009, KX), (1000005, capC ct 40), (40, seqB e k F d l)], ⟨congrArg SV.tup ?_, rfl⟩, rr, rr, rr, trivial⟩
   repeat' (refine cons_eq ?_ ?_)
   all_goals (conv => lhs; whnf)
   all_goals rfl
theorem lz80 {α : Type} {g ct e k : Nat} {F : α → List DV} {d : α} {tk : List UInt8 → List α → Bool × List α} (hg : Taker g ct e k F d tk) (text : List UInt8) (ht : text.length ≤ 2^20) (l0 : List α) (hl0 : l0.length ≤ 2^20) :
 FSpec Tryz.prog 80 [.d (.str text), .fn g [.ptr 1000005 0]] [(1000009, KX), (1000005, capC ct 1000003), (1000003, seqB e k F d l0)] (fun x r => x = .tup [.d (.int .i64 (lnsF tk (text.length + 1) 0 text l0).1.1), .d (.bool (lnsF tk (text.length + 1) 0 text l0).1.2)] ∧
  r = [(1000009, KX), (1000005, capC ct 40), (40, seqB e k F d (lnsF tk (text.length + 1) 0 text l0).2)]) := by
 generalize hR : lnsF tk (text.length + 1) 0 text l0 = R
 refine spec_of hT (C := []) Tryz.func80 rfl Tryz.call80 rfl rfl rfl ?_
 conv => whnf
 refine LoopX.rule hT (C := []) (ι := Nat × Nat × List UInt8 × List α) (fun (n, a, t, l) => (lnsF tk n a t l = R ∧ t.length < n) ∧ t.length + a ≤ text.length ∧ l.length ≤ l0.length + a)
  (fun (n, a, t, l) => mkSt [(0, .d (.str t)), (1, .fn g [.ptr 1000005 0]), (6, .d (.int .i64 a))] [(1000009, KX), (1000005, capC ct 40), (40, seqB e k F d l)])
  (fun (n, _, _, _) => n) (text.length + 1, 0, text, l0) ⟨⟨hR, Nat.lt_succ_self _⟩, Nat.le_refl _, by simp⟩ (by (refine Entails.mk' [(1000009, 1000009), (1000005, 1000005), (40, 1000003)] rfl rfl ?_ ?_ <;> repeat' (first | exact True.intro | exact lr | exact rr | exact SV.le_int (by omega) | exact SV.le_any _ | refine And.intro ?_ ?_)); done) ?_
 rintro ⟨n, a, t, l⟩ ⟨⟨h1, h2⟩, h3, h4⟩
 obtain ⟨m, rfl⟩ : ∃ m, n = m + 1 := ⟨n - 1, by omega⟩
 have hcl := cut_le t
 have htl : (tk (Lib.cut t [10]).1 l).2.length ≤ l.length + 1 := hg.1 _ _
 have hc := hg.2 (Lib.cut t [10]).1 l (by omega) (by omega)
 conv => whnf
 repeat' (first | (refine CallX.kn (zCut t [10] (by omega)) rfl rfl rfl rfl ?_; conv => whnf) | (refine CallX.of hc [(1000009, 1000009), (1000005, 1000005), (1000003, 40), (46, 41)] rfl ⟨lr, lr, trivial⟩ ⟨rr, rr, rr, trivial⟩ rfl rfl ?_; rintro x rout ⟨rfl, rfl⟩; refine ⟨rfl, ?_⟩; conv => whnf) | (refine br_intro ?_ ?_ <;> intro hb <;> (try simp only [brs] at hb) <;> conv => whnf) | omega | (refine And.intro ?_ ?_; ((try dsimp only); first | omega | (refine szA rfl ?_; omega) | (refine szB rfl ?_; omega) | (unfold inI64; omega) | exact rfl | (simp only [List.toList_toArray, List.length_cons, List.length_nil]; omega) | (simp only [lns] at *; omega) | decide | (unfold inI64; decide)); conv => whnf) | decide | assumption)
 · rename_i hb0
   obtain rfl : R = ((a, false), l) := by rw [← h1]; simp [lnsF, hb0, hb]
   refine .ret _ ?_
   conv => whnf
   refine ⟨[(1000009, KX), (1000005, capC ct 40), (40, seqB e k F d l)], ⟨congrArg SV.tup ?_, rfl⟩, rr, rr, rr, trivial⟩
   repeat' (refine cons_eq ?_ ?_)
   all_goals (conv => lhs; whnf)
   all_goals rfl
 · rename_i hb0 hb1
   obtain rfl : R = ((a, false), (tk (Lib.cut t [10]).1 l).2) := by rw [← h1]; simp [lnsF, hb0, hb1, hb]
   refine .ent _ (mkSt [(4, .d (.int .i64 a)), (5, .d (.bool false))] [(1000009, KX), (1000005, capC ct 40), (40, seqB e k F d (tk (Lib.cut t [10]).1 l).2)]) (by (refine Entails.mk' [(1000009, 1000009), (1000005, 1000005), (40, 41)] rfl rfl ?_ ?_ <;> repeat' (first | exact True.intro | exact lr | exact rr | exact SV.le_int (by omega) | exact SV.le_any _ | refine And.intro ?_ ?_)); done) ?_
   refine .ret _ ?_
   conv => whnf
   refine ⟨[(1000009, KX), (1000005, capC ct 40), (40, seqB e k F d (tk (Lib.cut t [10]).1 l).2)], ⟨congrArg SV.tup ?_, rfl⟩, rr, rr, rr, trivial⟩
   repeat' (refine cons_eq ?_ ?_)
   all_goals (conv => lhs; whnf)
   all_goals rfl
 · rename_i hb0 hb1
   have hlen := cut_len hb1
   refine ⟨(m, a + 1, (Lib.cut t [10]).2.1, (tk (Lib.cut t [10]).1 l).2), ⟨⟨by rw [← h1]; simp [lnsF, hb0, hb1, hb], by omega⟩, by omega, by omega⟩, Nat.lt_succ_self m, (by (refine Entails.mk' [(1000009, 1000009), (1000005, 1000005), (40, 41)] rfl rfl ?_ ?_ <;> repeat' (first | exact True.intro | exact lr | exact rr | exact SV.le_int (by omega) | exact SV.le_any _ | refine And.intro ?_ ?_)); done)⟩
 · obtain rfl : R = ((0, true), l) := by rw [← h1]; simp [lnsF, hb]
   refine .ret _ ?_
   conv => whnf
   refine ⟨[(1000009, KX), (1000005, capC ct 40), (40, seqB e k F d l)], ⟨congrArg SV.tup ?_, rfl⟩, rr, rr, rr, trivial⟩
   repeat' (refine cons_eq ?_ ?_)
   all_goals (conv => lhs; whnf)
   all_goals rfl
theorem lookL_rot {a b c : Nat} {x y z : Res} (h1 : Nat.beq a c = false) (h2 : Nat.beq b c = false) : lookL [(c, z), (a, x), (b, y)] = lookL [(a, x), (b, y), (c, z)] := by
 have e1 : a ≠ c := fun q => by rw [q] at h1; simp at h1
 have e2 : b ≠ c := fun q => by rw [q] at h2; simp at h2
 funext d
 by_cases q1 : d = a
 · subst q1; simp [lookL, nbeq_ne e1]
 · by_cases q2 : d = b
   · subst q2; simp [lookL, nbeq_ne e2, nbeq_ne q1]
   · simp [lookL, nbeq_ne q1, nbeq_ne q2]
theorem reordF {P : Program} {f : FuncId} {args : List SV} {rin rin' : List (Nat × Res)} {post : SV → List (Nat × Res) → Prop} (h : FSpec P f args rin post) (e : lookL rin' = lookL rin) : FSpec P f args rin' post :=
 ⟨h.enter, fun G β w vs hp hl hd => by
   have := h.calls G β w vs (by rw [← e]; exact hp) hl hd
   rw [e]; exact this⟩
theorem lnsNil {α : Type} {f g ct e k : Nat} {F : α → List DV} {d : α} {text : List UInt8} {post : SV → List (Nat × Res) → Prop} (hk : 0 < k)
 (h : FSpec Tryz.prog f [.d (.str text), .fn g [.ptr 1000005 0]] [(1000009, KX), (1000005, capC ct 1000003), (1000003, seqB e k F d [])] post) :
 FSpec Tryz.prog f [.d (.str text), .fn g [.ptr 1000005 0]] [(1000005, .cells ct [.d .nilsl]), (1000009, KX)] post :=
 FSpec.nilCell (c := 1000005) (d := 1000003) (e := e) (k := k) (j := 0) (ce := ct) (l := [.d .nilsl]) (g := rowF F d []) (rest := [(1000009, KX)]) (reordF h (lookL_rot rfl rfl).symm) hk rfl rfl rfl
def redF {α : Type} (tk : List UInt8 → List α → Bool × List α) (fe : List α → Int) (text : List UInt8) : List α × Nat × Int :=
 bif decide (200000 < text.length) then ([], 0, 2) else
 bif (lnsF tk (text.length + 1) 0 text []).1.2 then (bif decide (fe (lnsF tk (text.length + 1) 0 text []).2 = 0) then ((lnsF tk (text.length + 1) 0 text []).2, 0, 0) else ([], 0, fe (lnsF tk (text.length + 1) 0 text []).2))
 else ([], (lnsF tk (text.length + 1) 0 text []).1.1, 9)
theorem lnsF_all {α : Type} {tk : List UInt8 → List α → Bool × List α} {Q : α → Prop} {N : Nat} (hQ : ∀ line l, line.length ≤ N → (∀ x ∈ l, Q x) → ∀ x ∈ (tk line l).2, Q x) : ∀ (n a : Nat) (t : List UInt8) (l : List α), t.length ≤ N → (∀ x ∈ l, Q x) → ∀ x ∈ (lnsF tk n a t l).2, Q x := by
 intro n
 induction n with
 | zero => intro a t l _ h; exact h
 | succ n ih =>
   intro a t l ht h
   have h1 := cut_le t
   have h2 := hQ (Lib.cut t [10]).1 l (by omega) h
   unfold lnsF
   split
   · exact h
   · split
     · exact h
     · split
       · exact h2
       · rename_i hc _
         have := cut_len (by simpa using hc)
         exact ih _ _ _ (by omega) h2
theorem lnsF_len {α : Type} {tk : List UInt8 → List α → Bool × List α} (hQ : ∀ line l, (tk line l).2.length ≤ l.length + 1) : ∀ (n a : Nat) (t : List UInt8) (l : List α), (lnsF tk n a t l).2.length ≤ l.length + n := by
 intro n
 induction n with
 | zero => intro a t l; exact Nat.le_refl _
 | succ n ih =>
   intro a t l
   have h2 := hQ (Lib.cut t [10]).1 l
   unfold lnsF
   split
   · simp only; omega
   · split
     · simp only; omega
     · split
       · simp only; omega
       · have := ih (a + 1) (Lib.cut t [10]).2.1 (tk (Lib.cut t [10]).1 l).2
         omega
theorem dec_len : ∀ (k u : Nat), u < 10 ^ (k + 1) → (Lib.decDigits u).length ≤ k + 1 := by
 intro k
 induction k with
 | zero =>
   intro u h
   rw [Lib.decDigits, dif_pos (by omega)]; simp
 | succ k ih =>
   intro u h
   rw [Lib.decDigits]
   split
   · simp
   · have := ih (u / 10) (by rw [Nat.pow_succ] at h; omega)
     simp; omega
theorem itoa_len {n : Int} (h0 : -2^60 ≤ n) (h1 : n ≤ 2^60) : (Lib.itoa n).length ≤ 20 := by
 have key : ∀ u : Nat, u ≤ 2^60 → (Lib.decDigits u).length ≤ 19 := fun u hu => dec_len 18 u (by omega)
 unfold Lib.itoa
 split
 · have := key n.natAbs (by omega)
   simp; omega
 · have := key n.toNat (by omega)
   omega
def lnOk (ps : List Part) : Prop := ps.length ≤ 8 ∧ ∀ p ∈ ps, (partS p).length ≤ 2^10
theorem join_len : ∀ (l : List (List UInt8)) (sep : List UInt8) (N : Nat), (∀ x ∈ l, x.length ≤ N) → (Lib.join l sep).length ≤ l.length * (N + sep.length) := by
 intro l sep N h
 cases l with
 | nil => simp [Lib.join_nil]
 | cons x r =>
   rw [Lib.join_cons, List.length_append]
   have h1 := h x List.mem_cons_self
   have key : ∀ r : List (List UInt8), (∀ z ∈ r, z.length ≤ N) → (Lib.joinTail sep r).length ≤ r.length * (N + sep.length) := by
    intro r
    induction r with
    | nil => intro _; simp [Lib.joinTail]
    | cons y r ih =>
      intro hr
      have h3 := hr y List.mem_cons_self
      have h4 := ih (fun z hz => hr z (List.mem_cons_of_mem _ hz))
      unfold Lib.joinTail at h4 ⊢
      simp only [List.map_cons, List.flatten_cons, List.length_append, List.length_cons] at h4 ⊢
      rw [Nat.add_mul, Nat.one_mul]; omega
   have h2 := key r (fun z hz => h z (List.mem_cons_of_mem _ hz))
   simp only [List.length_cons]
   rw [Nat.add_mul, Nat.one_mul]; omega
theorem lnOk_len {ps : List Part} (h : lnOk ps) : (Lib.join (ps.map partS) [32]).length ≤ 2^14 := by
 have := join_len (ps.map partS) [32] (2^10) (fun x hx => by
  obtain ⟨p, hp, rfl⟩ := List.mem_map.1 hx
  exact h.2 p hp)
 have h8 := h.1
 simp only [List.length_map, List.length_singleton] at this
 have h3 : ps.length * (2 ^ 10 + 1) ≤ 8 * (2^10 + 1) := Nat.mul_le_mul_right _ h8
 omega
def lnB (ps : List Part) : List UInt8 := Lib.join (ps.map partS) [32] ++ [10]
def txF {α : Type} (pf : α → List Part) (l : List α) : List UInt8 := (l.map fun p => lnB (pf p)).flatten
theorem txF_len {α : Type} {pf : α → List Part} : ∀ {l : List α}, (∀ p ∈ l, lnOk (pf p)) → (txF pf l).length ≤ l.length * 2^15 := by
 intro l
 induction l with
 | nil => intro _; simp [txF]
 | cons x r ih =>
   intro h
   have h1 := lnOk_len (h x List.mem_cons_self)
   have h2 := ih (fun p hp => h p (List.mem_cons_of_mem _ hp))
   simp only [txF, List.map_cons, List.flatten_cons, List.length_append, List.length_cons, List.length_nil, lnB] at h2 ⊢
   rw [Nat.add_mul, Nat.one_mul]; omega
theorem txF_snoc {α : Type} {pf : α → List Part} {l : List α} {d : α} {i : Nat} (hi : i < l.length) : txF pf (l.take (i + 1)) = txF pf (l.take i) ++ lnB (pf (l.getD i d)) := by
 have : l.take (i + 1) = l.take i ++ [l.getD i d] := by rw [List.take_add_one]; simp [List.getD_eq_getElem?_getD, hi]
 rw [this]; simp [txF]
def oXTpD74_7 : List (Nat × List Nat) := [(0, []), (1, [0]), (2, []), (3, [0, 1, 2]), (4, [0, 1, 2]), (5, [0, 1, 2]), (6, []), (7, [0, 1, 2, 3, 4, 5, 6]), (8, [0, 1, 2, 3, 4, 5, 6, 7]), (9, [0, 1, 2, 3, 4, 5, 6, 7]), (10, [0, 1, 2, 3, 4, 5, 6]), (11, []), (12, [])]
def oXTpD74_9 : List (Nat × List Nat) := [(0, []), (1, [0]), (2, []), (3, [0, 1, 2]), (4, [0, 1, 2]), (5, [0, 1, 2]), (6, []), (7, [0, 1, 2, 3, 4, 5, 6]), (8, [0, 1, 2, 3, 4, 5, 6, 7]), (9, [0, 1, 2, 3, 4, 5, 6]), (10, []), (11, [])]
def oXTpD74_10 : List (Nat × List Nat) := [(0, []), (1, [0]), (2, []), (3, [0, 1, 2]), (4, [0, 1, 2, 3]), (5, [0, 1, 2, 3]), (6, [0, 1, 2]), (7, []), (8, [])]
theorem lpas_eq {a b : Pas} : a = b ↔ ((a.tm = b.tm ∧ a.gate = b.gate) ∧ a.plate = b.plate) ∧ a.cents = b.cents := by cases a; cases b; simp [and_assoc]
instance : DecidableEq Pas := fun _ _ => decidable_of_iff _ lpas_eq.symm
theorem enc_len (n : Int) : (Utf8.encode n).data.toList.length ≤ 4 := by
 unfold Utf8.encode
 dsimp only
 generalize (if Utf8.valid n = true then n.toNat else Utf8.runeError) = c
 repeat' split
 all_goals simp
theorem le_enc {A : Nat} {n : Int} (h : A ≤ 2^40) : A + (Utf8.encode n).data.toList.length ≤ 9223372036854775807 := by have := enc_len n; omega
theorem le_enc2 {A : List UInt8} {B : Nat} {n : Int} (h : A.length ≤ 2^40) (k : B ≤ 2^40) : (A ++ (Utf8.encode n).data.toList).length + B ≤ 9223372036854775807 := by have := enc_len n; rw [List.length_append]; omega
theorem len_enc {A : List UInt8} {n : Int} : (A ++ (Utf8.encode n).data.toList).length ≤ A.length + 4 := by have := enc_len n; rw [List.length_append]; omega
theorem lz74 (n : Nat) (L : Nat → Int) (hL : Rok n L) (a : Int) (h0 : 0 ≤ a) (ha : a ≤ 2^39) (t wth : List UInt8) (ht : t.length ≤ 2^30) (hw : wth.length ≤ 2^20) :
 FSpec Tryz.prog 74 [.ptr 1000000 0, .d (.str t), .d (.str wth)] [(1000000, strm n L a)] (fun y r => (∃ u, u.length ≤ t.length + wth.length + 4 ∧ y = .d (.str u)) ∧ Moved n L a 4 r) := by
 have nn : ∀ l : List UInt8, ¬ 1 ≤ l.length → l = [] := fun l h => List.eq_nil_of_length_eq_zero (by omega)
 by_cases e1 : 1 ≤ t.length
 · by_cases e2 : 1 ≤ wth.length
   · refine spec_of hT (C := []) Tryz.func74 rfl Tryz.call74 rfl rfl rfl ?_
     conv => whnf
     repeat' (first | (refine CallX.of (s86 n L hL _ ?_ ?_ _ ?_) [(1000000, 1000000)] rfl ⟨lr, lr, trivial⟩ ⟨rr, trivial⟩ rfl rfl ?_; rotate_right; rintro x rout ⟨⟨j, hj1, hj2, hj3, rfl⟩, ⟨c, c1, c2, rfl⟩⟩; refine ⟨rfl, ?_⟩; conv => whnf) | (refine And.intro (le_enc (by simp only [List.length_take, List.length_drop]; omega)) ?_; conv => whnf) | (refine And.intro (le_enc2 (by simp only [List.length_take, List.length_drop]; omega) (by simp only [List.length_take, List.length_drop]; omega)) ?_; conv => whnf) | (refine And.intro (by simp only [List.length_take, List.length_drop]; omega) ?_; conv => whnf) | (refine br_intro ?_ ?_ <;> intro hb <;> (try simp only [brs] at hb) <;> conv => whnf) | (refine RegX.rule (id := 7) hT rfl [] oXTpD74_7 (by decide +kernel) ?_; conv => whnf) | (refine RegX.rule (id := 9) hT rfl [] oXTpD74_9 (by decide +kernel) ?_; conv => whnf) | (refine RegX.rule (id := 10) hT rfl [] oXTpD74_10 (by decide +kernel) ?_; conv => whnf) | omega | (refine And.intro ?_ ?_; ((try dsimp only); first | omega | (refine szA rfl ?_; omega) | (refine szB rfl ?_; omega) | (unfold inI64; omega) | exact rfl | (simp only [List.toList_toArray, List.length_cons, List.length_nil]; omega) | (simp only [lns] at *; omega) | decide | (unfold inI64; decide)); conv => whnf) | decide | assumption)
     · exfalso; rw [hb] at e1; simp at e1
     · exfalso; rw [hb] at e2; simp at e2
     all_goals (refine .ret _ ?_)
     all_goals (conv => whnf)
     · refine ⟨[(1000000, strm n L _)], ⟨⟨_, ?_, rfl⟩, ⟨_, ?_, ?_, rfl⟩⟩, rr, trivial⟩
       · rw [List.length_append]
         refine Nat.le_trans (Nat.add_le_add_right len_enc _) ?_
         simp only [List.length_take, List.length_drop]; omega
       all_goals omega
     · refine ⟨[(1000000, strm n L _)], ⟨⟨_, ?_, rfl⟩, ⟨_, ?_, ?_, rfl⟩⟩, rr, trivial⟩
       · rw [List.length_append]
         refine Nat.le_trans (Nat.add_le_add_right len_enc _) ?_
         simp only [List.length_take, List.length_drop]; omega
       all_goals omega
     · refine ⟨[(1000000, strm n L _)], ⟨⟨_, ?_, rfl⟩, ⟨_, ?_, ?_, rfl⟩⟩, rr, trivial⟩
       · rw [List.length_append]
         simp only [List.length_take, List.length_drop]; omega
       all_goals omega
   · obtain rfl := nn _ e2
     refine spec_of hT (C := []) Tryz.func74 rfl Tryz.call74 rfl rfl rfl ?_
     conv => whnf
     repeat' (first | (refine br_intro ?_ ?_ <;> intro hb <;> (try simp only [brs] at hb) <;> conv => whnf) | (refine RegX.rule (id := 7) hT rfl [] oXTpD74_7 (by decide +kernel) ?_; conv => whnf) | (refine RegX.rule (id := 9) hT rfl [] oXTpD74_9 (by decide +kernel) ?_; conv => whnf) | (refine RegX.rule (id := 10) hT rfl [] oXTpD74_10 (by decide +kernel) ?_; conv => whnf) | omega | (refine And.intro ?_ ?_; ((try dsimp only); first | omega | (refine szA rfl ?_; omega) | (refine szB rfl ?_; omega) | (unfold inI64; omega) | exact rfl | (simp only [List.toList_toArray, List.length_cons, List.length_nil]; omega) | (simp only [lns] at *; omega) | decide | (unfold inI64; decide)); conv => whnf) | decide | assumption)
     all_goals (refine .ret _ ?_)
     all_goals (conv => whnf)
     all_goals exact ⟨[(1000000, strm n L a)], ⟨⟨_, by simp, rfl⟩, ⟨a, by omega, by omega, rfl⟩⟩, rr, trivial⟩
 · obtain rfl := nn _ e1
   refine spec_of hT (C := []) Tryz.func74 rfl Tryz.call74 rfl rfl rfl ?_
   conv => whnf
   repeat' (first | (refine br_intro ?_ ?_ <;> intro hb <;> (try simp only [brs] at hb) <;> conv => whnf) | (refine RegX.rule (id := 7) hT rfl [] oXTpD74_7 (by decide +kernel) ?_; conv => whnf) | (refine RegX.rule (id := 9) hT rfl [] oXTpD74_9 (by decide +kernel) ?_; conv => whnf) | (refine RegX.rule (id := 10) hT rfl [] oXTpD74_10 (by decide +kernel) ?_; conv => whnf) | omega | (refine And.intro ?_ ?_; ((try dsimp only); first | omega | (refine szA rfl ?_; omega) | (refine szB rfl ?_; omega) | (unfold inI64; omega) | exact rfl | (simp only [List.toList_toArray, List.length_cons, List.length_nil]; omega) | (simp only [lns] at *; omega) | decide | (unfold inI64; decide)); conv => whnf) | decide | assumption)
   all_goals (refine .ret _ ?_)
   all_goals (conv => whnf)
   all_goals exact ⟨[(1000000, strm n L a)], ⟨⟨wth, by simp, rfl⟩, ⟨a, by omega, by omega, rfl⟩⟩, rr, trivial⟩
def MovedK (n : Nat) (L : Nat → Int) (a : Int) (c : Int) (r : List (Nat × Res)) : Prop := ∃ b, a ≤ b ∧ b ≤ a + c ∧ r = [(1000000, strm n L b), (1000009, KX)]
theorem s74 (n : Nat) (L : Nat → Int) (hL : Rok n L) (a : Int) (h0 : 0 ≤ a) (ha : a ≤ 2^39) (t wth : List UInt8) (ht : t.length ≤ 2^30) (hw : wth.length ≤ 2^20) :
 FSpec Tryz.prog 74 [.ptr 1000000 0, .d (.str t), .d (.str wth)] [(1000000, strm n L a)] (fun y r => (∃ u, u.length ≤ t.length + wth.length + 4 ∧ y = .d (.str u)) ∧ Moved n L a 4 r) := lz74 n L hL a h0 ha t wth ht hw
theorem pick4 {u : Int} (h : u ∈ [(0 : Int), 0, 1, 2]) : 0 ≤ u ∧ u ≤ 2 := by simp at h; omega
def oXMpC142_4 : List (Nat × List Nat) := [(1, []), (2, []), (3, []), (0, [1, 2, 3]), (4, []), (5, [])]
def oXMpC142_8 : List (Nat × List Nat) := [(0, []), (1, [0]), (2, [0]), (3, [0]), (4, [0, 1, 2, 3]), (5, [0, 1, 2, 3, 4]), (6, [0, 1, 2, 3, 4]), (7, [0, 1, 2, 3, 4]), (8, [0, 1, 2, 3, 4, 5, 6, 7]), (9, [0, 1, 2, 3, 4, 5, 6, 7]), (10, [0, 1, 2, 3, 4, 5, 6, 7]), (11, [0, 1, 2, 3, 4, 5, 6, 7, 8, 9, 10]), (12, [0, 1, 2, 3, 4, 5, 6, 7, 8, 9, 10]), (13, [0, 1, 2, 3, 4, 5, 6, 7, 8, 9, 10]), (14, [0]), (15, [0]), (16, []), (17, [])]
def oXMpC144_5 : List (Nat × List Nat) := [(1, []), (2, []), (3, []), (0, [1, 2, 3]), (4, []), (5, [])]
def oXMpC144_8 : List (Nat × List Nat) := [(0, []), (1, [0]), (2, [0]), (3, [0]), (4, [0, 1, 2, 3]), (5, [0, 1, 2, 3, 4]), (6, [0, 1, 2, 3, 4]), (7, [0, 1, 2, 3, 4]), (8, [0, 1, 2, 3, 4, 5, 6, 7]), (9, [0, 1, 2, 3, 4, 5, 6, 7]), (10, [0, 1, 2, 3, 4, 5, 6, 7]), (11, [0, 1, 2, 3, 4, 5, 6, 7, 8, 9, 10]), (12, [0, 1, 2, 3, 4, 5, 6, 7, 8, 9, 10]), (13, [0, 1, 2, 3, 4, 5, 6, 7, 8, 9, 10]), (14, [0]), (15, [0]), (16, []), (17, [])]
def kindsL : List (List UInt8) := [[], [115, 99, 114, 97, 116, 99, 104], [100, 101, 110, 116], [99, 104, 105, 112], [99, 114, 97, 99, 107]]
def kix (s : List UInt8) : Int := ixF (fun i => kindsL.getD i [] == s) kindsL.length
theorem lz140 : FSpec Tryz.prog 140 [] [] (fun x r => x = .d (strs kindsL) ∧ r = []) := by
 refine spec_of hT (C := []) Tryz.func140 rfl Tryz.call140 rfl rfl rfl ?_
 conv => whnf
 refine .weak _ ?_
 conv => whnf
 exact ⟨.d (strs kindsL), [], SV.le_lit rfl rfl, ⟨rfl, rfl⟩, trivial⟩
theorem lz141 : FSpec Tryz.prog 141 [] [] (fun x r => x = .d (strs kindsL) ∧ r = []) := by
 refine spec_of hT (C := []) Tryz.func141 rfl Tryz.call141 rfl rfl rfl ?_
 conv => whnf
 refine .weak _ ?_
 conv => whnf
 exact ⟨.d (strs kindsL), [], SV.le_lit rfl rfl, ⟨rfl, rfl⟩, trivial⟩
def tkMrk (line : List UInt8) (l : List Mrk) : Bool × List Mrk :=
 bif (wrdsOk (Lib.split line [32]) && decide ((Lib.split line [32]).length = 5)) && (((Lib.split line [32]).drop 2).all numOk && decide (1 ≤ kix ((Lib.split line [32]).getD 1 []))) then
  (true, l ++ [⟨(Lib.split line [32]).getD 0 [], kix ((Lib.split line [32]).getD 1 []), (((Lib.split line [32]).drop 2).map numN).getD 0 0, (((Lib.split line [32]).drop 2).map numN).getD 1 0, (((Lib.split line [32]).drop 2).map numN).getD 2 0⟩]) else (false, l)
theorem le_drop {W : List (List UInt8)} {a n : Nat} (h : n = W.length - a) : SV.le (.d (.ro 1 n fun i => rowF sF [] W (a + i))) (.d (strs (W.drop a))) :=
 SV.le_ro (by rw [h, List.length_drop]) (fun i _ => by simp only [rowF]; rw [List.getD_eq_getElem?_getD, List.getD_eq_getElem?_getD, List.getElem?_drop])
theorem lz142 (line : List UInt8) (l : List Mrk) (h1 : line.length ≤ 2^20) (h2 : l.length ≤ 2^21) :
 FSpec Tryz.prog 142 [.d (.str line), .ptr 1000005 0] [(1000009, KX), (1000005, capC 73 1000003), (1000003, seqB 88 5 mkF mk0 l)] (fun x r => x = .d (.bool (tkMrk line l).1) ∧ r = [(1000009, KX), (1000005, capC 73 46), (46, seqB 88 5 mkF mk0 (tkMrk line l).2)]) := by
 have hsl := split_len line [32] (by decide)
 have hmem : ∀ i, ((Lib.split line [32]).getD i []).length ≤ 2^40 := fun i => by
  rcases Nat.lt_or_ge i (Lib.split line [32]).length with q | q
  · have := split_mem (getD_mem (x := []) q); omega
  · rw [List.getD_eq_getElem?_getD, List.getElem?_eq_none q]; simp
 have hN := lz79 ((Lib.split line [32]).drop 2) (by rw [List.length_drop]; omega) (by intro x hx; have := split_mem (List.mem_of_mem_drop hx); omega)
 have hl3 : (((Lib.split line [32]).drop 2).map numN).length = (Lib.split line [32]).length - 2 := by simp
 unfold tkMrk
 have hK := lz143 kindsL (by decide) ((Lib.split line [32]).getD 1 [])
 have hkb := ixF_bd (p := fun i => kindsL.getD i [] == ((Lib.split line [32]).getD 1 [])) (n := kindsL.length)
 rw [show ixF (fun i => kindsL.getD i [] == ((Lib.split line [32]).getD 1 [])) kindsL.length = kix ((Lib.split line [32]).getD 1 []) from rfl] at hK hkb
 have hk1 := hkb.1
 have hk2 : kix ((Lib.split line [32]).getD 1 []) < 5 := hkb.2.1
 clear hkb
 generalize hW : Lib.split line [32] = W at *
 have hWz := lz96 line (by omega)
 rw [hW] at hWz
 generalize kix (W.getD 1 []) = K at *
 generalize hNN : (W.drop 2).map numN = N at *
 cases hA : (W.drop 2).all numOk with
 | false =>
   rw [hA] at hN
   rw [Bool.false_and, Bool.and_false, cond_false]
   refine spec_of hT (C := []) Tryz.func142 rfl Tryz.call142 rfl rfl rfl ?_
   conv => whnf
   repeat' (first | (refine CallX.kn hWz rfl rfl rfl rfl ?_; conv => whnf) | (refine CallX.look hN [(1000009, 1000009)] rfl ⟨le_drop (by omega), trivial⟩ ⟨⟨_, rfl, rfl⟩, trivial⟩ rfl rfl rfl ?_; conv => whnf) | (refine CallX.exact (lz140) rfl rfl ?_; rotate_right; conv => whnf) | (refine CallX.exact (hK) rfl rfl ?_; rotate_right; conv => whnf) | (refine br_intro ?_ ?_ <;> intro hb <;> (try simp only [brs] at hb) <;> conv => whnf) | (refine RegX.rule (id := 4) hT rfl [] oXMpC142_4 (by decide +kernel) ?_; conv => whnf) | (refine RegX.rule (id := 8) hT rfl [] oXMpC142_8 (by decide +kernel) ?_; conv => whnf) | omega | (refine And.intro ?_ ?_; ((try dsimp only); first | omega | (refine szA rfl ?_; omega) | (refine szB rfl ?_; omega) | (unfold inI64; omega) | exact rfl | (simp only [List.toList_toArray, List.length_cons, List.length_nil]; omega) | (simp only [lns] at *; omega) | decide | (unfold inI64; decide)); conv => whnf) | decide | assumption)
   all_goals
    refine .ent _ (mkSt [(3, .d (.bool false))] [(1000009, KX), (1000005, capC 73 46), (46, seqB 88 5 mkF mk0 l)]) (by (refine Entails.mk' [(1000009, 1000009), (1000005, 1000005), (46, 1000003)] rfl rfl ?_ ?_ <;> repeat' (first | exact True.intro | exact lr | exact rr | exact SV.le_int (by omega) | exact SV.le_any _ | refine And.intro ?_ ?_)); done) ?_
    refine .ret _ ?_
    conv => whnf
    exact ⟨[(1000009, KX), (1000005, capC 73 46), (46, seqB 88 5 mkF mk0 l)], ⟨rfl, rfl⟩, rr, rr, rr, trivial⟩
 | true =>
   rw [hA] at hN
   rw [Bool.true_and]
   replace hN : FSpec Tryz.prog 79 [.d (strs (W.drop 2))] kx (fun x r => x = .tup [.d (ints N), .d (.bool true)] ∧ r = kx) := hN
   refine spec_of hT (C := []) Tryz.func142 rfl Tryz.call142 rfl rfl rfl ?_
   conv => whnf
   repeat' (first | (refine CallX.kn hWz rfl rfl rfl rfl ?_; conv => whnf) | (refine CallX.look hN [(1000009, 1000009)] rfl ⟨le_drop (by omega), trivial⟩ ⟨⟨_, rfl, rfl⟩, trivial⟩ rfl rfl rfl ?_; conv => whnf) | (refine CallX.exact (lz140) rfl rfl ?_; rotate_right; conv => whnf) | (refine CallX.exact (hK) rfl rfl ?_; rotate_right; conv => whnf) | (refine br_intro ?_ ?_ <;> intro hb <;> (try simp only [brs] at hb) <;> conv => whnf) | (refine RegX.rule (id := 4) hT rfl [] oXMpC142_4 (by decide +kernel) ?_; conv => whnf) | (refine RegX.rule (id := 8) hT rfl [] oXMpC142_8 (by decide +kernel) ?_; conv => whnf) | omega | (refine And.intro ?_ ?_; ((try dsimp only); first | omega | (refine szA rfl ?_; omega) | (refine szB rfl ?_; omega) | (unfold inI64; omega) | exact rfl | (simp only [List.toList_toArray, List.length_cons, List.length_nil]; omega) | (simp only [lns] at *; omega) | decide | (unfold inI64; decide)); conv => whnf) | decide | assumption)
   · rw [hb, Bool.false_and, Bool.false_and, cond_false]
     refine .ent _ (mkSt [(3, .d (.bool false))] [(1000009, KX), (1000005, capC 73 46), (46, seqB 88 5 mkF mk0 l)]) (by (refine Entails.mk' [(1000009, 1000009), (1000005, 1000005), (46, 1000003)] rfl rfl ?_ ?_ <;> repeat' (first | exact True.intro | exact lr | exact rr | exact SV.le_int (by omega) | exact SV.le_any _ | refine And.intro ?_ ?_)); done) ?_
     refine .ret _ ?_
     conv => whnf
     exact ⟨[(1000009, KX), (1000005, capC 73 46), (46, seqB 88 5 mkF mk0 l)], ⟨rfl, rfl⟩, rr, rr, rr, trivial⟩
   · have hb' : decide (W.length = 5) = false := by simp; omega
     rw [hb', Bool.and_false, Bool.false_and, cond_false]
     refine .ent _ (mkSt [(3, .d (.bool false))] [(1000009, KX), (1000005, capC 73 46), (46, seqB 88 5 mkF mk0 l)]) (by (refine Entails.mk' [(1000009, 1000009), (1000005, 1000005), (46, 1000003)] rfl rfl ?_ ?_ <;> repeat' (first | exact True.intro | exact lr | exact rr | exact SV.le_int (by omega) | exact SV.le_any _ | refine And.intro ?_ ?_)); done) ?_
     refine .ret _ ?_
     conv => whnf
     exact ⟨[(1000009, KX), (1000005, capC 73 46), (46, seqB 88 5 mkF mk0 l)], ⟨rfl, rfl⟩, rr, rr, rr, trivial⟩
   · have hb' : decide (1 ≤ K) = false := by simp; omega
     rw [hb', Bool.and_false, cond_false]
     refine .ent _ (mkSt [(3, .d (.bool false))] [(1000009, KX), (1000005, capC 73 46), (46, seqB 88 5 mkF mk0 l)]) (by (refine Entails.mk' [(1000009, 1000009), (1000005, 1000005), (46, 1000003)] rfl rfl ?_ ?_ <;> repeat' (first | exact True.intro | exact lr | exact rr | exact SV.le_int (by omega) | exact SV.le_any _ | refine And.intro ?_ ?_)); done) ?_
     refine .ret _ ?_
     conv => whnf
     exact ⟨[(1000009, KX), (1000005, capC 73 46), (46, seqB 88 5 mkF mk0 l)], ⟨rfl, rfl⟩, rr, rr, rr, trivial⟩
   · rename_i hb0 hb1
     have hb' : decide (W.length = 5) = true := by simp; omega
     have hb2 : decide (1 ≤ K) = true := by simp; omega
     rw [hb', hb2, hb0, Bool.and_true, Bool.and_true, cond_true]
     refine .ent _ (mkSt [(3, .d (.bool true))] [(1000009, KX), (1000005, capC 73 46), (46, seqB 88 5 mkF mk0 (l ++ [⟨W.getD 0 [], K, N.getD 0 0, N.getD 1 0, N.getD 2 0⟩]))]) (by (refine Entails.mk' [(1000009, 1000009), (1000005, 1000005), (46, 53)] rfl rfl ?_ ?_ <;> repeat' (first | exact True.intro | exact lr | exact rr | (exact Res.le_snocF rfl) | exact SV.le_int (by omega) | exact SV.le_any _ | refine And.intro ?_ ?_)); done) ?_
     refine .ret _ ?_
     conv => whnf
     exact ⟨[(1000009, KX), (1000005, capC 73 46), (46, seqB 88 5 mkF mk0 _)], ⟨rfl, rfl⟩, rr, rr, rr, trivial⟩
theorem lz144 (line : List UInt8) (l : List Mrk) (h1 : line.length ≤ 2^20) (h2 : l.length ≤ 2^21) :
 FSpec Tryz.prog 144 [.d (.str line), .ptr 1000005 0] [(1000009, KX), (1000005, capC 73 1000003), (1000003, seqB 88 5 mkF mk0 l)] (fun x r => x = .d (.bool (tkMrk line l).1) ∧ r = [(1000009, KX), (1000005, capC 73 46), (46, seqB 88 5 mkF mk0 (tkMrk line l).2)]) := by
 have hsl := split_len line [32] (by decide)
 have hmem : ∀ i, ((Lib.split line [32]).getD i []).length ≤ 2^40 := fun i => by
  rcases Nat.lt_or_ge i (Lib.split line [32]).length with q | q
  · have := split_mem (getD_mem (x := []) q); omega
  · rw [List.getD_eq_getElem?_getD, List.getElem?_eq_none q]; simp
 have hN := lz83 ((Lib.split line [32]).drop 2) (by rw [List.length_drop]; omega) (by intro x hx; have := split_mem (List.mem_of_mem_drop hx); omega)
 have hl3 : (((Lib.split line [32]).drop 2).map numN).length = (Lib.split line [32]).length - 2 := by simp
 unfold tkMrk
 have hK := lz143 kindsL (by decide) ((Lib.split line [32]).getD 1 [])
 have hkb := ixF_bd (p := fun i => kindsL.getD i [] == ((Lib.split line [32]).getD 1 [])) (n := kindsL.length)
 rw [show ixF (fun i => kindsL.getD i [] == ((Lib.split line [32]).getD 1 [])) kindsL.length = kix ((Lib.split line [32]).getD 1 []) from rfl] at hK hkb
 have hk1 := hkb.1
 have hk2 : kix ((Lib.split line [32]).getD 1 []) < 5 := hkb.2.1
 clear hkb
 generalize hW : Lib.split line [32] = W at *
 have hWz := lz98 line (by omega)
 rw [hW] at hWz
 generalize kix (W.getD 1 []) = K at *
 generalize hNN : (W.drop 2).map numN = N at *
 cases hA : (W.drop 2).all numOk with
 | false =>
   rw [hA] at hN
   rw [Bool.false_and, Bool.and_false, cond_false]
   refine spec_of hT (C := []) Tryz.func144 rfl Tryz.call144 rfl rfl rfl ?_
   conv => whnf
   repeat' (first | (refine CallX.kn hWz rfl rfl rfl rfl ?_; conv => whnf) | (refine CallX.look hN [(1000009, 1000009)] rfl ⟨le_drop (by omega), trivial⟩ ⟨⟨_, rfl, rfl⟩, trivial⟩ rfl rfl rfl ?_; conv => whnf) | (refine CallX.exact (lz141) rfl rfl ?_; rotate_right; conv => whnf) | (refine CallX.exact (hK) rfl rfl ?_; rotate_right; conv => whnf) | (refine br_intro ?_ ?_ <;> intro hb <;> (try simp only [brs] at hb) <;> conv => whnf) | (refine RegX.rule (id := 5) hT rfl [] oXMpC144_5 (by decide +kernel) ?_; conv => whnf) | (refine RegX.rule (id := 8) hT rfl [] oXMpC144_8 (by decide +kernel) ?_; conv => whnf) | omega | (refine And.intro ?_ ?_; ((try dsimp only); first | omega | (refine szA rfl ?_; omega) | (refine szB rfl ?_; omega) | (unfold inI64; omega) | exact rfl | (simp only [List.toList_toArray, List.length_cons, List.length_nil]; omega) | (simp only [lns] at *; omega) | decide | (unfold inI64; decide)); conv => whnf) | decide | assumption)
   all_goals
    refine .ent _ (mkSt [(3, .d (.bool false))] [(1000009, KX), (1000005, capC 73 46), (46, seqB 88 5 mkF mk0 l)]) (by (refine Entails.mk' [(1000009, 1000009), (1000005, 1000005), (46, 1000003)] rfl rfl ?_ ?_ <;> repeat' (first | exact True.intro | exact lr | exact rr | exact SV.le_int (by omega) | exact SV.le_any _ | refine And.intro ?_ ?_)); done) ?_
    refine .ret _ ?_
    conv => whnf
    exact ⟨[(1000009, KX), (1000005, capC 73 46), (46, seqB 88 5 mkF mk0 l)], ⟨rfl, rfl⟩, rr, rr, rr, trivial⟩
 | true =>
   rw [hA] at hN
   rw [Bool.true_and]
   replace hN : FSpec Tryz.prog 83 [.d (strs (W.drop 2))] kx (fun x r => x = .tup [.d (ints N), .d (.bool true)] ∧ r = kx) := hN
   refine spec_of hT (C := []) Tryz.func144 rfl Tryz.call144 rfl rfl rfl ?_
   conv => whnf
   repeat' (first | (refine CallX.kn hWz rfl rfl rfl rfl ?_; conv => whnf) | (refine CallX.look hN [(1000009, 1000009)] rfl ⟨le_drop (by omega), trivial⟩ ⟨⟨_, rfl, rfl⟩, trivial⟩ rfl rfl rfl ?_; conv => whnf) | (refine CallX.exact (lz141) rfl rfl ?_; rotate_right; conv => whnf) | (refine CallX.exact (hK) rfl rfl ?_; rotate_right; conv => whnf) | (refine br_intro ?_ ?_ <;> intro hb <;> (try simp only [brs] at hb) <;> conv => whnf) | (refine RegX.rule (id := 5) hT rfl [] oXMpC144_5 (by decide +kernel) ?_; conv => whnf) | (refine RegX.rule (id := 8) hT rfl [] oXMpC144_8 (by decide +kernel) ?_; conv => whnf) | omega | (refine And.intro ?_ ?_; ((try dsimp only); first | omega | (refine szA rfl ?_; omega) | (refine szB rfl ?_; omega) | (unfold inI64; omega) | exact rfl | (simp only [List.toList_toArray, List.length_cons, List.length_nil]; omega) | (simp only [lns] at *; omega) | decide | (unfold inI64; decide)); conv => whnf) | decide | assumption)
   · rw [hb, Bool.false_and, Bool.false_and, cond_false]
     refine .ent _ (mkSt [(3, .d (.bool false))] [(1000009, KX), (1000005, capC 73 46), (46, seqB 88 5 mkF mk0 l)]) (by (refine Entails.mk' [(1000009, 1000009), (1000005, 1000005), (46, 1000003)] rfl rfl ?_ ?_ <;> repeat' (first | exact True.intro | exact lr | exact rr | exact SV.le_int (by omega) | exact SV.le_any _ | refine And.intro ?_ ?_)); done) ?_
     refine .ret _ ?_
     conv => whnf
     exact ⟨[(1000009, KX), (1000005, capC 73 46), (46, seqB 88 5 mkF mk0 l)], ⟨rfl, rfl⟩, rr, rr, rr, trivial⟩
   · have hb' : decide (W.length = 5) = false := by simp; omega
     rw [hb', Bool.and_false, Bool.false_and, cond_false]
     refine .ent _ (mkSt [(3, .d (.bool false))] [(1000009, KX), (1000005, capC 73 46), (46, seqB 88 5 mkF mk0 l)]) (by (refine Entails.mk' [(1000009, 1000009), (1000005, 1000005), (46, 1000003)] rfl rfl ?_ ?_ <;> repeat' (first | exact True.intro | exact lr | exact rr | exact SV.le_int (by omega) | exact SV.le_any _ | refine And.intro ?_ ?_)); done) ?_
     refine .ret _ ?_
     conv => whnf
     exact ⟨[(1000009, KX), (1000005, capC 73 46), (46, seqB 88 5 mkF mk0 l)], ⟨rfl, rfl⟩, rr, rr, rr, trivial⟩
   · have hb' : decide (1 ≤ K) = false := by simp; omega
     rw [hb', Bool.and_false, cond_false]
     refine .ent _ (mkSt [(3, .d (.bool false))] [(1000009, KX), (1000005, capC 73 46), (46, seqB 88 5 mkF mk0 l)]) (by (refine Entails.mk' [(1000009, 1000009), (1000005, 1000005), (46, 1000003)] rfl rfl ?_ ?_ <;> repeat' (first | exact True.intro | exact lr | exact rr | exact SV.le_int (by omega) | exact SV.le_any _ | refine And.intro ?_ ?_)); done) ?_
     refine .ret _ ?_
     conv => whnf
     exact ⟨[(1000009, KX), (1000005, capC 73 46), (46, seqB 88 5 mkF mk0 l)], ⟨rfl, rfl⟩, rr, rr, rr, trivial⟩
   · rename_i hb0 hb1
     have hb' : decide (W.length = 5) = true := by simp; omega
     have hb2 : decide (1 ≤ K) = true := by simp; omega
     rw [hb', hb2, hb0, Bool.and_true, Bool.and_true, cond_true]
     refine .ent _ (mkSt [(3, .d (.bool true))] [(1000009, KX), (1000005, capC 73 46), (46, seqB 88 5 mkF mk0 (l ++ [⟨W.getD 0 [], K, N.getD 0 0, N.getD 1 0, N.getD 2 0⟩]))]) (by (refine Entails.mk' [(1000009, 1000009), (1000005, 1000005), (46, 54)] rfl rfl ?_ ?_ <;> repeat' (first | exact True.intro | exact lr | exact rr | (exact Res.le_snocF rfl) | exact SV.le_int (by omega) | exact SV.le_any _ | refine And.intro ?_ ?_)); done) ?_
     refine .ret _ ?_
     conv => whnf
     exact ⟨[(1000009, KX), (1000005, capC 73 46), (46, seqB 88 5 mkF mk0 _)], ⟨rfl, rfl⟩, rr, rr, rr, trivial⟩
end Go.Proofs.YtgeakdcbpjmkbaaGreatDoor
namespace Go.Proofs
open Go.Shelf
end Go.Proofs
set_option maxRecDepth 20000
namespace Go.Proofs.YtgeakdcbpjmkbaaGreatDoor
open Go Go.Eng Go.Shelf
end Go.Proofs.YtgeakdcbpjmkbaaGreatDoor
set_option maxRecDepth 20000
namespace Go.Proofs.YtgeakdcbpjmkbaaGreatDoor
open Go Go.Eng Go.Shelf Go.RowKit
def oXMpD56_6 : List (Nat × List Nat) := [(0, []), (1, [0]), (2, []), (3, []), (4, [0, 1, 2, 3]), (5, [0, 1, 2, 3, 4]), (6, [0, 1, 2, 3]), (7, [0, 1, 2, 3]), (8, [])]
theorem tkMrk_len (line : List UInt8) (l : List Mrk) : (tkMrk line l).2.length ≤ l.length + 1 := by
 unfold tkMrk
 generalize ((wrdsOk (Lib.split line [32]) && decide ((Lib.split line [32]).length = 5)) && (((Lib.split line [32]).drop 2).all numOk && decide (1 ≤ kix ((Lib.split line [32]).getD 1 [])))) = c
 cases c <;> simp
theorem tkMrk_ok (line : List UInt8) (l : List Mrk) (h1 : line.length ≤ 2^40) (h : ∀ p ∈ l, mkK p) : ∀ p ∈ (tkMrk line l).2, mkK p := by
 have hmem : ∀ i, ((Lib.split line [32]).getD i []).length ≤ 2^40 := fun i => by
  rcases Nat.lt_or_ge i (Lib.split line [32]).length with q | q
  · have := split_mem (getD_mem (x := []) q); omega
  · rw [List.getD_eq_getElem?_getD, List.getElem?_eq_none q]; simp
 unfold tkMrk
 generalize ((wrdsOk (Lib.split line [32]) && decide ((Lib.split line [32]).length = 5)) && (((Lib.split line [32]).drop 2).all numOk && decide (1 ≤ kix ((Lib.split line [32]).getD 1 [])))) = c
 cases c with
 | false => exact h
 | true =>
   intro p hp
   rcases List.mem_append.1 hp with q | q
   · exact h p q
   · simp at q; subst q; exact hmem 0
theorem mkOk_rd (text : List UInt8) (ht : text.length ≤ 2^20) : mkOk (lnsF tkMrk (text.length + 1) 0 text []).2 :=
 ⟨by have := lnsF_len tkMrk_len (text.length + 1) 0 text []; simp only [List.length_nil] at this; omega, lnsF_all (N := 2^40) (fun line l h1 h => tkMrk_ok line l h1 h) _ _ _ _ (by omega) (by simp)⟩
theorem tk142 : Taker 142 73 88 5 mkF mk0 tkMrk := ⟨tkMrk_len, lz142⟩
theorem tk144 : Taker 144 73 88 5 mkF mk0 tkMrk := ⟨tkMrk_len, lz144⟩
theorem lz54 (text : List UInt8) (ht : text.length ≤ 2^20) : FSpec Tryz.prog 54 [.d (.str text)] kx (fun x r => x = .tup [.d (seqD 5 mkF mk0 (redF tkMrk mrksE text).1), .d (.int .i64 (redF tkMrk mrksE text).2.1), .d (.int .i64 (redF tkMrk mrksE text).2.2)] ∧ r = kx) := by
 have hL := lnsNil (by decide) (lz75 tk142 text ht [] (by simp))
 have hlen := lnsF_len (tk := tkMrk) (tk142).1 (text.length + 1) 0 text []
 have hok := mkOk_rd text ht
 unfold redF
 generalize lnsF tkMrk (text.length + 1) 0 text [] = R at hL hlen hok ⊢
 obtain ⟨⟨ra, rb⟩, rl⟩ := R
 refine spec_of hT (C := []) Tryz.func54 rfl Tryz.call54 rfl rfl rfl ?_
 conv => whnf
 repeat' (first | (refine CallX.of hL [(1000005, 5), (1000009, 1000009), (40, 41)] rfl ⟨lr, lr, trivial⟩ ⟨rr, rr, trivial⟩ rfl rfl ?_; rintro x rout ⟨rfl, rfl⟩; refine ⟨rfl, ?_⟩; conv => whnf) | (refine CallX.freeze _ _ _ _ 41 88 5 _ _ rfl rfl ?_; refine CallX.pure (s192 rl hok) ⟨lr, trivial⟩ rfl ?_; conv => whnf) | (refine br_intro ?_ ?_ <;> intro hb <;> (try simp only [brs] at hb) <;> conv => whnf) | omega | (refine And.intro ?_ ?_; ((try dsimp only); first | omega | (refine szA rfl ?_; omega) | (refine szB rfl ?_; omega) | (unfold inI64; omega) | exact rfl | (simp only [List.toList_toArray, List.length_cons, List.length_nil]; omega) | (simp only [lns] at *; omega) | decide | (unfold inI64; decide)); conv => whnf) | decide | assumption)
 · have q : decide (200000 < text.length) = true := by simp; omega
   rw [q, cond_true]
   refine .weak _ ?_
   conv => whnf
   exact ⟨.tup [.d (seqD 5 mkF mk0 []), .d (.int .i64 0), .d (.int .i64 2)], kx, SV.le_tup ⟨SV.le_nilS, lr, lr, trivial⟩, ⟨rfl, rfl⟩, rr, trivial⟩
 · have q : decide (200000 < text.length) = false := by simp; omega
   simp only [q, hb, cond_false]
   refine .weak _ ?_
   conv => whnf
   exact ⟨.tup [.d (seqD 5 mkF mk0 []), .d (.int .i64 ra), .d (.int .i64 9)], kx, SV.le_tup ⟨SV.le_nilS, lr, lr, trivial⟩, ⟨rfl, rfl⟩, rr, trivial⟩
 · rename_i hb0 hb1
   have q : decide (200000 < text.length) = false := by simp; omega
   have q2 : decide (mrksE rl = 0) = false := by simp [hb]
   simp only [q, q2, hb1, cond_false, cond_true]
   refine .weak _ ?_
   conv => whnf
   exact ⟨.tup [.d (seqD 5 mkF mk0 []), .d (.int .i64 0), .d (.int .i64 (mrksE rl))], kx, SV.le_tup ⟨SV.le_nilS, lr, lr, trivial⟩, ⟨rfl, rfl⟩, rr, trivial⟩
 · rename_i hb0 hb1
   have q : decide (200000 < text.length) = false := by simp; omega
   have q2 : decide (mrksE rl = 0) = true := by simp [hb]
   simp only [q, q2, hb1, cond_false, cond_true]
   refine .ret _ ?_
   conv => whnf
   refine ⟨kx, ⟨congrArg SV.tup ?_, rfl⟩, rr, trivial⟩
   repeat' (refine cons_eq ?_ ?_)
   all_goals (conv => lhs; whnf)
   all_goals try (with_reducible rfl)
   all_goals rfl
theorem lz55 (text : List UInt8) (ht : text.length ≤ 2^20) : FSpec Tryz.prog 55 [.d (.str text)] kx (fun x r => x = .tup [.d (seqD 5 mkF mk0 (redF tkMrk mrksE text).1), .d (.int .i64 (redF tkMrk mrksE text).2.1), .d (.int .i64 (redF tkMrk mrksE text).2.2)] ∧ r = kx) := by
 have hL := lnsNil (by decide) (lz80 tk144 text ht [] (by simp))
 have hlen := lnsF_len (tk := tkMrk) (tk144).1 (text.length + 1) 0 text []
 have hok := mkOk_rd text ht
 unfold redF
 generalize lnsF tkMrk (text.length + 1) 0 text [] = R at hL hlen hok ⊢
 obtain ⟨⟨ra, rb⟩, rl⟩ := R
 refine spec_of hT (C := []) Tryz.func55 rfl Tryz.call55 rfl rfl rfl ?_
 conv => whnf
 repeat' (first | (refine CallX.of hL [(1000005, 5), (1000009, 1000009), (40, 41)] rfl ⟨lr, lr, trivial⟩ ⟨rr, rr, trivial⟩ rfl rfl ?_; rintro x rout ⟨rfl, rfl⟩; refine ⟨rfl, ?_⟩; conv => whnf) | (refine CallX.freeze _ _ _ _ 41 88 5 _ _ rfl rfl ?_; refine CallX.pure (s195 rl hok) ⟨lr, trivial⟩ rfl ?_; conv => whnf) | (refine br_intro ?_ ?_ <;> intro hb <;> (try simp only [brs] at hb) <;> conv => whnf) | omega | (refine And.intro ?_ ?_; ((try dsimp only); first | omega | (refine szA rfl ?_; omega) | (refine szB rfl ?_; omega) | (unfold inI64; omega) | exact rfl | (simp only [List.toList_toArray, List.length_cons, List.length_nil]; omega) | (simp only [lns] at *; omega) | decide | (unfold inI64; decide)); conv => whnf) | decide | assumption)
 · have q : decide (200000 < text.length) = true := by simp; omega
   rw [q, cond_true]
   refine .weak _ ?_
   conv => whnf
   exact ⟨.tup [.d (seqD 5 mkF mk0 []), .d (.int .i64 0), .d (.int .i64 2)], kx, SV.le_tup ⟨SV.le_nilS, lr, lr, trivial⟩, ⟨rfl, rfl⟩, rr, trivial⟩
 · have q : decide (200000 < text.length) = false := by simp; omega
   simp only [q, hb, cond_false]
   refine .weak _ ?_
   conv => whnf
   exact ⟨.tup [.d (seqD 5 mkF mk0 []), .d (.int .i64 ra), .d (.int .i64 9)], kx, SV.le_tup ⟨SV.le_nilS, lr, lr, trivial⟩, ⟨rfl, rfl⟩, rr, trivial⟩
 · rename_i hb0 hb1
   have q : decide (200000 < text.length) = false := by simp; omega
   have q2 : decide (mrksE rl = 0) = false := by simp [hb]
   simp only [q, q2, hb1, cond_false, cond_true]
   refine .weak _ ?_
   conv => whnf
   exact ⟨.tup [.d (seqD 5 mkF mk0 []), .d (.int .i64 0), .d (.int .i64 (mrksE rl))], kx, SV.le_tup ⟨SV.le_nilS, lr, lr, trivial⟩, ⟨rfl, rfl⟩, rr, trivial⟩
 · rename_i hb0 hb1
   have q : decide (200000 < text.length) = false := by simp; omega
   have q2 : decide (mrksE rl = 0) = true := by simp [hb]
   simp only [q, q2, hb1, cond_false, cond_true]
   refine .ret _ ?_
   conv => whnf
   refine ⟨kx, ⟨congrArg SV.tup ?_, rfl⟩, rr, trivial⟩
   repeat' (refine cons_eq ?_ ?_)
   all_goals (conv => lhs; whnf)
   all_goals try (with_reducible rfl)
   all_goals rfl
theorem mrk_eq {a b : Mrk} : a = b ↔ (((a.pan = b.pan ∧ a.kind = b.kind) ∧ a.x = b.x) ∧ a.y = b.y) ∧ a.size = b.size := by cases a; cases b; simp [and_assoc]
instance : DecidableEq Mrk := fun _ _ => decidable_of_iff _ mrk_eq.symm
theorem lz56 (l m : List Mrk) (hl : l.length ≤ 2^40) : FSpec Tryz.prog 56 [.d (mrks l), .d (mrks m)] [] (fun x r => x = .d (.bool (decide (l = m))) ∧ r = []) := by
 refine spec_of hT (C := []) Tryz.func56 rfl Tryz.call56 rfl rfl rfl ?_
 conv => whnf
 repeat' (first | (refine br_intro ?_ ?_ <;> intro hb <;> (try simp only [brs] at hb) <;> conv => whnf) | (refine RegX.rule (id := 6) hT rfl [] oXMpD56_6 (by decide +kernel) ?_; conv => whnf) | omega | (refine And.intro ?_ ?_; ((try dsimp only); first | omega | (refine szA rfl ?_; omega) | (refine szB rfl ?_; omega) | (unfold inI64; omega) | exact rfl | (simp only [List.toList_toArray, List.length_cons, List.length_nil]; omega) | (simp only [lns] at *; omega) | decide | (unfold inI64; decide)); conv => whnf) | decide | assumption)
 · refine .ret _ ?_
   conv => whnf
   refine ⟨[], ⟨?_, rfl⟩, trivial⟩
   conv => lhs; whnf
   have : ¬ l = m := fun q => by subst q; simp at hb
   simp [this]
 have hlen : l.length = m.length := by
  omega
 refine LoopX.rule hT (C := []) (ι := Nat) (fun i => i ≤ l.length ∧ ∀ j, j < i → l.getD j mk0 = m.getD j mk0) (fun i => mkSt [(0, .d (mrks l)), (1, .d (mrks m)), (12, .d (.int .i64 l.length)), (13, .d (.int .i64 i))] []) (fun i => l.length - i) 0 ⟨by simp, fun j hj => absurd hj (Nat.not_lt_zero j)⟩ (by (refine Entails.mk' [] rfl rfl ?_ ?_ <;> repeat' (first | exact True.intro | exact lr | exact rr | exact SV.le_int (by omega) | exact SV.le_any _ | refine And.intro ?_ ?_)); done) ?_
 rintro i ⟨p1, p2⟩
 have e1 : (i : Int).toNat = i := Int.toNat_natCast i
 conv => whnf
 repeat' (first | (refine br_intro ?_ ?_ <;> intro hb <;> (try simp only [brs] at hb) <;> conv => whnf) | (refine RegX.rule (id := 6) hT rfl [] oXMpD56_6 (by decide +kernel) ?_; conv => whnf) | omega | (refine And.intro ?_ ?_; ((try dsimp only); first | omega | (refine szA rfl ?_; omega) | (refine szB rfl ?_; omega) | (unfold inI64; omega) | exact rfl | (simp only [List.toList_toArray, List.length_cons, List.length_nil]; omega) | (simp only [lns] at *; omega) | decide | (unfold inI64; decide)); conv => whnf) | decide | assumption)
 · refine .ret _ ?_
   conv => whnf
   refine ⟨[], ⟨?_, rfl⟩, trivial⟩
   conv => lhs; whnf
   have : ¬ l = m := fun q => by subst q; simp at hb
   simp [this]
 · exact ⟨i + 1, ⟨by omega, all_step p2 (by rw [mrk_eq]; simpa [and_assoc] using hb)⟩, by omega, (by (refine Entails.mk' [] rfl rfl ?_ ?_ <;> repeat' (first | exact True.intro | exact lr | exact rr | exact SV.le_int (by omega) | exact SV.le_any _ | refine And.intro ?_ ?_)); done)⟩
 · refine .ret _ ?_
   conv => whnf
   refine ⟨[], ⟨?_, rfl⟩, trivial⟩
   conv => lhs; whnf
   have : i = l.length := by omega
   subst this
   simp [eq_of_getD mk0 hlen p2]
def mrkP (p : Mrk) : List Part := [.inr p.pan, .inr (kindsL.getD p.kind.toNat []), .inl p.x, .inl p.y, .inl p.size]
def mrk1 (p : Mrk) : Prop := (p.pan.length ≤ 2^10 ∧ (0 ≤ p.kind ∧ p.kind ≤ 4)) ∧ (-2^60 ≤ p.x ∧ p.x ≤ 2^60) ∧ (-2^60 ≤ p.y ∧ p.y ≤ 2^60) ∧ (-2^60 ≤ p.size ∧ p.size ≤ 2^60)
theorem kinds_len (i : Nat) : (kindsL.getD i []).length ≤ 7 := by
 rcases i with _ | _ | _ | _ | _ | i <;> simp [kindsL]
theorem mrk1_ln {p : Mrk} (h : mrk1 p) : lnOk (mrkP p) := by
 obtain ⟨⟨h1, h2⟩, ⟨h3, h4⟩, ⟨h5, h6⟩, h7, h8⟩ := h
 refine ⟨by simp [mrkP], fun q hq => ?_⟩
 simp only [mrkP, List.mem_cons, List.not_mem_nil, or_false] at hq
 have e1 := itoa_len h3 h4
 have e2 := itoa_len h5 h6
 have e3 := itoa_len h7 h8
 have e4 := kinds_len p.kind.toNat
 rcases hq with rfl | rfl | rfl | rfl | rfl <;> simp only [partS] <;> omega
theorem mrk1_ok {p : Mrk} (h : mrk1 p) : ∀ q ∈ mrkP p, partOk q := by
 obtain ⟨⟨h1, h2⟩, ⟨h3, h4⟩, ⟨h5, h6⟩, h7, h8⟩ := h
 intro q hq
 simp only [mrkP, List.mem_cons, List.not_mem_nil, or_false] at hq
 rcases hq with rfl | rfl | rfl | rfl | rfl <;> simp only [partOk] <;> first | trivial | omega
theorem mrk1_0 : mrk1 mk0 := by simp [mrk1, mk0]
def oXMpE51_8 : List (Nat × List Nat) := [(0, []), (1, []), (2, []), (4, [0, 1, 2]), (5, [0, 1, 2]), (9, [0, 1, 2, 4, 5]), (10, [0, 1, 2, 4, 5]), (11, [0, 1, 2, 4, 5]), (12, [0, 1, 2, 4, 5, 9, 10, 11]), (13, [0, 1, 2, 4, 5, 9, 10, 11]), (14, [0, 1, 2, 4, 5, 9, 10, 11]), (15, [0, 1, 2, 4, 5, 9, 10, 11, 12, 13, 14]), (16, [0, 1, 2, 4, 5, 9, 10, 11, 12, 13, 14]), (17, [0, 1, 2, 4, 5, 9, 10, 11, 12, 13, 14]), (3, [0, 1, 2, 4, 5, 9, 10, 11, 12, 13, 14, 15, 16, 17]), (6, [0, 1, 2, 9, 10, 11, 12, 13, 14, 15, 16, 17]), (7, [0, 1, 2, 9, 10, 11, 12, 13, 14, 15, 16, 17]), (8, [0, 1, 2, 9, 10, 11, 12, 13, 14, 15, 16, 17]), (18, []), (19, []), (20, []), (21, [])]
theorem lz51 (l : List Mrk) (hk : mkOk l) (hl : l.length ≤ 2^15 ∧ (mrksE l = 0 → ∀ p ∈ l, mrk1 p))  : FSpec Tryz.prog 51 [.d (seqD 5 mkF mk0 l)] kx (fun x r => x = .tup [.d (.str (if mrksE l = 0 then txF mrkP l else [])), .d (.int .i64 (mrksE l))] ∧ r = kx) := by
 by_cases hz : mrksE l = 0
 case neg =>
  have hf := s192 l hk
  generalize mrksE l = e at *
  refine spec_of hT (C := []) Tryz.func51 rfl Tryz.call51 rfl rfl rfl ?_
  conv => whnf
  repeat' (first | (refine CallX.exact (hf) rfl rfl ?_; rotate_right; conv => whnf) | (refine br_intro ?_ ?_ <;> intro hb <;> (try simp only [brs] at hb) <;> conv => whnf) | (refine RegX.rule (id := 8) hT rfl [] oXMpE51_8 (by decide +kernel) ?_; conv => whnf) | omega | (refine And.intro ?_ ?_; ((try dsimp only); first | omega | (refine szA rfl ?_; omega) | (refine szB rfl ?_; omega) | (unfold inI64; omega) | exact rfl | (simp only [List.toList_toArray, List.length_cons, List.length_nil]; omega) | (simp only [lns] at *; omega) | decide | (unfold inI64; decide)); conv => whnf) | decide | assumption)
  refine .ret _ ?_
  conv => whnf
  refine ⟨kx, ⟨congrArg SV.tup ?_, rfl⟩, rr, trivial⟩
  repeat' (refine cons_eq ?_ ?_)
  all_goals (conv => lhs; whnf)
  all_goals try (with_reducible rfl)
  · rw [if_neg hz]
 replace hl : l.length ≤ 2^15 ∧ ∀ p ∈ l, mrk1 p := ⟨hl.1, hl.2 hz⟩
 have hq : ∀ i, mrk1 (l.getD i mk0) := fun i => by
  rcases Nat.lt_or_ge i l.length with q | q
  · exact hl.2 _ (getD_mem q)
  · rw [List.getD_eq_getElem?_getD, List.getElem?_eq_none q]; exact mrk1_0
 have hJ := fun i => lnOk_len (mrk1_ln (hq i))
 have hC := fun i => zWJoin (mrkP (l.getD i mk0)) (by simp [mrkP]) (mrk1_ok (hq i)) (by have := hJ i; omega)
 have hT' := fun i => txF_len (pf := mrkP) (l := l.take i) (fun p hp => mrk1_ln (hl.2 p (List.mem_of_mem_take hp)))
 have hlen := hl.1
 refine spec_of hT (C := []) Tryz.func51 rfl Tryz.call51 rfl rfl rfl ?_
 conv => whnf
 repeat' (first | (refine CallX.exact (s192 l hk) rfl rfl ?_; rotate_right; conv => whnf) | (refine br_intro ?_ ?_ <;> intro hb <;> (try simp only [brs] at hb) <;> conv => whnf) | (refine RegX.rule (id := 8) hT rfl [] oXMpE51_8 (by decide +kernel) ?_; conv => whnf) | omega | (refine And.intro ?_ ?_; ((try dsimp only); first | omega | (refine szA rfl ?_; omega) | (refine szB rfl ?_; omega) | (unfold inI64; omega) | exact rfl | (simp only [List.toList_toArray, List.length_cons, List.length_nil]; omega) | (simp only [lns] at *; omega) | decide | (unfold inI64; decide)); conv => whnf) | decide | assumption)
 have h0 := hz
 rw [h0, if_pos rfl]
 rcases Nat.eq_zero_or_pos l.length with h00 | h00
 · refine LoopX.unroll hT (C := []) (fun _ _ h => h) (fun _ h => h) ?_
   conv => whnf
   repeat' (first | (refine CallX.of zStrN [(1000001, 5)] rfl ⟨lr, trivial⟩ ⟨rr, trivial⟩ rfl rfl ?_; rintro x rout ⟨rfl, rfl⟩; refine ⟨rfl, ?_⟩; conv => whnf) | (refine br_intro ?_ ?_ <;> intro hb <;> (try simp only [brs] at hb) <;> conv => whnf) | (refine RegX.rule (id := 8) hT rfl [] oXMpE51_8 (by decide +kernel) ?_; conv => whnf) | omega | (refine And.intro ?_ ?_; ((try dsimp only); first | omega | (refine szA rfl ?_; omega) | (refine szB rfl ?_; omega) | (unfold inI64; omega) | exact rfl | (simp only [List.toList_toArray, List.length_cons, List.length_nil]; omega) | (simp only [lns] at *; omega) | decide | (unfold inI64; decide)); conv => whnf) | decide | assumption)
   have : l = [] := List.eq_nil_of_length_eq_zero h00
   subst this
   refine .ret _ ?_
   conv => whnf
   refine ⟨kx, ⟨congrArg SV.tup ?_, rfl⟩, rr, trivial⟩
   repeat' (refine cons_eq ?_ ?_)
   all_goals (conv => lhs; whnf)
   all_goals try (with_reducible rfl)
   all_goals rfl
 have hJ0 := hJ 0
 have hx0 := (hq (Int.toNat 0)).1
 have hkl : kindsL.length = 5 := rfl
 refine LoopX.unroll hT (C := []) (fun _ _ h => h) (fun _ h => h) ?_
 conv => whnf
 repeat' (first | (refine CallX.look (hC 0) [(1000009, 1000009)] rfl ⟨SV.le_lit rfl rfl, trivial⟩ ⟨⟨_, rfl, rfl⟩, trivial⟩ rfl rfl rfl ?_; conv => whnf) | (refine CallX.exact (lz140) rfl rfl ?_; rotate_right; conv => whnf) | (refine CallX.of (zWrN (lnB (mrkP (l.getD 0 mk0))) (by unfold lnB; have := hJ 0; simp only [List.length_append, List.length_singleton]; omega)) [(1000001, 5), (14, 40)] rfl ⟨lr, lr, trivial⟩ ⟨rr, trivial⟩ rfl rfl ?_; rintro x rout ⟨rfl, rfl⟩; refine ⟨rfl, ?_⟩; conv => whnf) | (refine br_intro ?_ ?_ <;> intro hb <;> (try simp only [brs] at hb) <;> conv => whnf) | (refine RegX.rule (id := 8) hT rfl [] oXMpE51_8 (by decide +kernel) ?_; conv => whnf) | omega | (refine And.intro ?_ ?_; ((try dsimp only); first | omega | (refine szA rfl ?_; omega) | (refine szB rfl ?_; omega) | (unfold inI64; omega) | exact rfl | (simp only [List.toList_toArray, List.length_cons, List.length_nil]; omega) | (simp only [lns] at *; omega) | decide | (unfold inI64; decide)); conv => whnf) | decide | assumption)
 have he1 : lnB (mrkP (l.getD 0 mk0)) = txF mrkP (l.take 1) := by rw [txF_snoc (d := mk0) h00]; simp [txF]
 refine LoopX.rule hT (C := []) (ι := Nat) (fun i => i ≤ l.length) (fun i => mkSt [(5, .ptr 5 0), (13, .d (seqD 5 mkF mk0 l)), (14, .d (.int .i64 l.length)), (15, .d (.int .i64 i))] [(1000009, KX), (5, .cells 98 [.ptr 5 0, .buf 40]), (40, bytB (txF mrkP (l.take i)))]) (fun i => l.length - i) 1 h00 ?_ ?_
 · rw [← he1]
   exact (by (refine Entails.mk' [(1000009, 1000009), (5, 5), (40, 40)] rfl rfl ?_ ?_ <;> repeat' (first | exact True.intro | exact lr | exact rr | exact SV.le_int (by omega) | exact SV.le_any _ | refine And.intro ?_ ?_)); done)
 intro i hi
 have hJi := hJ i
 have hxi := (hq i).1
 have hxt := (hq (i : Int).toNat).1
 have hTi := hT' i
 have hTl : (l.take i).length = i := by simp; omega
 rw [hTl] at hTi
 conv => whnf
 repeat' (first | (refine CallX.look (hC i) [(1000009, 1000009)] rfl ⟨SV.le_lit rfl rfl, trivial⟩ ⟨⟨_, rfl, rfl⟩, trivial⟩ rfl rfl rfl ?_; conv => whnf) | (refine CallX.exact (lz140) rfl rfl ?_; rotate_right; conv => whnf) | (refine CallX.of (zWrB (txF mrkP (l.take i)) (lnB (mrkP (l.getD i mk0))) (by unfold lnB; simp only [List.length_append, List.length_singleton]; omega)) [(1000001, 5), (1000002, 40), (14, 41)] rfl ⟨lr, lr, trivial⟩ ⟨rr, rr, trivial⟩ rfl rfl ?_; rintro x rout ⟨rfl, rfl⟩; refine ⟨rfl, ?_⟩; conv => whnf) | (refine CallX.of (zStrB (txF mrkP (l.take i)) (.ptr 1000001 0)) [(1000001, 5), (1000002, 40)] rfl ⟨lr, trivial⟩ ⟨rr, rr, trivial⟩ rfl rfl ?_; rintro x rout ⟨rfl, rfl⟩; refine ⟨rfl, ?_⟩; conv => whnf) | (refine br_intro ?_ ?_ <;> intro hb <;> (try simp only [brs] at hb) <;> conv => whnf) | (refine RegX.rule (id := 8) hT rfl [] oXMpE51_8 (by decide +kernel) ?_; conv => whnf) | omega | (refine And.intro ?_ ?_; ((try dsimp only); first | omega | (refine szA rfl ?_; omega) | (refine szB rfl ?_; omega) | (unfold inI64; omega) | exact rfl | (simp only [List.toList_toArray, List.length_cons, List.length_nil]; omega) | (simp only [lns] at *; omega) | decide | (unfold inI64; decide)); conv => whnf) | decide | assumption)
 · have hlt : i < l.length := by omega
   refine ⟨i + 1, by omega, by omega, ?_⟩
   rw [txF_snoc (d := mk0) hlt]
   exact (by (refine Entails.mk' [(1000009, 1000009), (5, 5), (40, 41)] rfl rfl ?_ ?_ <;> repeat' (first | exact True.intro | exact lr | exact rr | exact SV.le_int (by omega) | exact SV.le_any _ | refine And.intro ?_ ?_)); done)
 · have : i = l.length := by omega
   subst this
   refine .ret _ ?_
   conv => whnf
   refine ⟨kx, ⟨congrArg SV.tup ?_, rfl⟩, rr, trivial⟩
   repeat' (refine cons_eq ?_ ?_)
   all_goals (conv => lhs; whnf)
   all_goals try (with_reducible rfl)
   · rw [List.take_length]
def oXMpF52_6 : List (Nat × List Nat) := [(0, []), (1, [0]), (2, [0]), (4, [0, 1, 2]), (5, [0, 1, 2]), (8, [0, 1, 2, 4, 5]), (9, [0, 1, 2, 4, 5, 8]), (10, [0, 1, 2, 4, 5, 8]), (12, [0, 1, 2, 4, 5, 8, 9, 10]), (13, [0, 1, 2, 4, 5, 8, 9, 10, 12]), (14, [0, 1, 2, 4, 5, 8, 9, 10, 12]), (16, [0, 1, 2, 4, 5, 8, 9, 10, 12, 13, 14]), (17, [0, 1, 2, 4, 5, 8, 9, 10, 12, 13, 14, 16]), (18, [0, 1, 2, 4, 5, 8, 9, 10, 12, 13, 14, 16]), (3, [0, 1, 2, 4, 5, 8, 9, 10, 12, 13, 14, 16, 17, 18]), (6, [0, 1, 2, 8, 9, 10, 12, 13, 14, 16, 17, 18]), (7, [0, 1, 2, 8, 9, 10, 12, 13, 14, 16, 17, 18]), (11, [0, 1, 2, 4, 5, 12, 13, 14, 16, 17, 18, 6, 7]), (15, [0, 1, 2, 4, 5, 16, 17, 18, 6, 7]), (19, [0, 1, 2, 4, 5, 6, 7]), (20, [0]), (21, [0]), (22, [0]), (23, []), (24, [])]
theorem lz52 (l : List Mrk) (hl : l.length ≤ 2^15 ∧ ∀ p ∈ l, mrk1 p) : FSpec Tryz.prog 52 [.d (mrks l)] kx (fun x r => x = .d (.str (txF mrkP l)) ∧ r = kx) := by
 have hq : ∀ i, mrk1 (l.getD i mk0) := fun i => by
  rcases Nat.lt_or_ge i l.length with q | q
  · exact hl.2 _ (getD_mem q)
  · rw [List.getD_eq_getElem?_getD, List.getElem?_eq_none q]; exact mrk1_0
 have hJ := fun i => lnOk_len (mrk1_ln (hq i))
 have hT' := fun i => txF_len (pf := mrkP) (l := l.take i) (fun p hp => mrk1_ln (hl.2 p (List.mem_of_mem_take hp)))
 have hlen := hl.1
 refine spec_of hT (C := []) Tryz.func52 rfl Tryz.call52 rfl rfl rfl ?_
 conv => whnf
 refine LoopX.rule hT (C := []) (ι := Nat) (fun i => i ≤ l.length) (fun i => mkSt [(3, .fn 72 []), (4, .d (.str (txF mrkP (l.take i)))), (7, .d (mrks l)), (8, .d (.int .i64 l.length)), (9, .d (.int .i64 i))] [(1000009, KX)]) (fun i => l.length - i) 0 (by simp) (by (refine Entails.mk' [(1000009, 1000009)] rfl rfl ?_ ?_ <;> repeat' (first | exact True.intro | exact lr | exact rr | exact SV.le_int (by omega) | exact SV.le_any _ | refine And.intro ?_ ?_)); done) ?_
 intro i hi
 have e1 : (i : Int).toNat = i := Int.toNat_natCast i
 have hJi := hJ i
 have hTi := hT' i
 have hTl : (l.take i).length = i := by simp; omega
 rw [hTl] at hTi
 have hxt := (hq (i : Int).toNat).1
 have hkl : kindsL.length = 5 := rfl
 obtain ⟨⟨h1, h2⟩, ⟨h3, h4⟩, ⟨h5, h6⟩, h7, h8⟩ := hq i
 have c1 := zItoa (l.getD i mk0).x (by omega) (by omega)
 have c2 := zItoa (l.getD i mk0).y (by omega) (by omega)
 have c3 := zItoa (l.getD i mk0).size (by omega) (by omega)
 have c4 := zJoin ((mrkP (l.getD i mk0)).map partS) [32] (by omega) (by simp [mrkP])
 conv => whnf
 repeat' (first | (refine CallX.exact (lz141) rfl rfl ?_; rotate_right; conv => whnf) | (refine CallX.kn c1 rfl rfl rfl rfl ?_; conv => whnf) | (refine CallX.kn c2 rfl rfl rfl rfl ?_; conv => whnf) | (refine CallX.kn c3 rfl rfl rfl rfl ?_; conv => whnf) | (refine CallX.pure c4 ⟨SV.le_lit rfl rfl, lr, trivial⟩ rfl ?_; conv => whnf) | (refine br_intro ?_ ?_ <;> intro hb <;> (try simp only [brs] at hb) <;> conv => whnf) | (refine RegX.rule (id := 6) hT rfl [] oXMpF52_6 (by decide +kernel) ?_; conv => whnf) | omega | (refine And.intro ?_ ?_; ((try dsimp only); first | omega | (refine szA rfl ?_; omega) | (refine szB rfl ?_; omega) | (unfold inI64; omega) | exact rfl | (simp only [List.toList_toArray, List.length_cons, List.length_nil]; omega) | (simp only [lns] at *; omega) | decide | (unfold inI64; decide)); conv => whnf) | decide | assumption)
 · have hlt : i < l.length := by omega
   refine ⟨i + 1, by omega, by omega, ?_⟩
   rw [txF_snoc (d := mk0) hlt]
   exact (by (refine Entails.mk' [(1000009, 1000009)] rfl rfl ?_ ?_ <;> repeat' (first | exact True.intro | exact lr | exact rr | exact SV.le_int (by omega) | exact SV.le_any _ | refine And.intro ?_ ?_)); done)
 · have : i = l.length := by omega
   subst this
   refine .ret _ ?_
   conv => whnf
   refine ⟨kx, ⟨?_, rfl⟩, rr, trivial⟩
   conv => lhs; whnf
   rw [List.take_length]
theorem mkG_ok {l : List Mrk} {k : Nat} (h : allK mkG k l) (hk : k ≤ 2^15) : mkOk l :=
 ⟨by have := h.1; omega, fun p hp => by
   have h1 := (h.2 p hp).1
   show p.pan.length ≤ 2^40
   omega⟩
theorem ixB {c : UInt8} {b : List UInt8} : ∀ {a : List UInt8}, c ∉ a → Lib.index (a ++ c :: b) [c] = a.length
 | [], _ => by simp [Lib.index, List.isPrefixOf]
 | x :: r, h => by
   have h1 : ¬ c = x := fun e => h (by simp [e])
   have h2 := ixB (b := b) (a := r) (fun q => h (List.mem_cons_of_mem _ q))
   rw [List.cons_append, Lib.index, h2]
   simp [List.isPrefixOf, h1]
theorem ixB0 {c : UInt8} : ∀ {a : List UInt8}, c ∉ a → Lib.index a [c] = -1
 | [], _ => by simp [Lib.index]
 | x :: r, h => by
   have h1 : ¬ c = x := fun e => h (by simp [e])
   have h2 := ixB0 (a := r) (fun q => h (List.mem_cons_of_mem _ q))
   rw [Lib.index, h2]
   simp [List.isPrefixOf, h1]
theorem cutB {a b : List UInt8} {c : UInt8} (h : c ∉ a) : Lib.cut (a ++ c :: b) [c] = (a, b, true) := by
 unfold Lib.cut
 rw [ixB h, if_pos (by omega)]
 simp
theorem join_cc (x y : List UInt8) (r : List (List UInt8)) (sep : List UInt8) : Lib.join (x :: y :: r) sep = x ++ sep ++ Lib.join (y :: r) sep := by
 rw [Lib.join_cons, Lib.join_cons]; simp [Lib.joinTail]
theorem splitK_join {c : UInt8} : ∀ (ws : List (List UInt8)) (k : Nat), ws ≠ [] → (∀ w ∈ ws, c ∉ w) → ws.length ≤ k + 1 → Lib.splitK [c] 0 k (Lib.join ws [c]) = ws
 | [], _, h, _, _ => absurd rfl h
 | [x], k, _, h, _ => by
   rw [Lib.join_one]
   cases k with
   | zero => rfl
   | succ k => unfold Lib.splitK; rw [ixB0 (h x (by simp))]; simp
 | x :: y :: r, k, _, h, hk => by
   obtain ⟨k, rfl⟩ : ∃ m, k = m + 1 := ⟨k - 1, by simp at hk; omega⟩
   rw [join_cc, List.append_assoc, List.singleton_append]
   unfold Lib.splitK
   rw [ixB (h x (by simp))]
   have ih := splitK_join (c := c) (y :: r) k (by simp) (fun w hw => h w (List.mem_cons_of_mem _ hw)) (by simp at hk ⊢; omega)
   have e : (x ++ c :: Lib.join (y :: r) [c]).drop (x.length + 1) = Lib.join (y :: r) [c] := by simp
   have q : ¬ ((x.length : Int) == -1) = true := by simp
   rw [if_neg q]
   simp only [Int.toNat_natCast, Nat.add_zero, List.length_singleton, e, ih, List.take_left]
theorem count_join {c : UInt8} : ∀ (ws : List (List UInt8)) (f : Nat), ws ≠ [] → (∀ w ∈ ws, c ∉ w) → ws.length ≤ f → ws.length ≤ Lib.countFrom [c] f (Lib.join ws [c]) + 1
 | [], _, h, _, _ => absurd rfl h
 | [x], f, _, h, _ => by simp
 | x :: y :: r, f, _, h, hf => by
   obtain ⟨f, rfl⟩ : ∃ m, f = m + 1 := ⟨f - 1, by simp at hf; omega⟩
   rw [join_cc, List.append_assoc, List.singleton_append]
   unfold Lib.countFrom
   rw [ixB (h x (by simp))]
   have ih := count_join (c := c) (y :: r) f (by simp) (fun w hw => h w (List.mem_cons_of_mem _ hw)) (by simp at hf ⊢; omega)
   have e : (x ++ c :: Lib.join (y :: r) [c]).drop (x.length + 1) = Lib.join (y :: r) [c] := by simp
   have q : ¬ ((x.length : Int) == -1) = true := by simp
   rw [if_neg q]
   simp only [Int.toNat_natCast, List.length_singleton, e]
   simp only [List.length_cons] at ih ⊢
   omega
theorem join_ge (c : UInt8) : ∀ (ws : List (List UInt8)), ws.length ≤ (Lib.join ws [c]).length + 1
 | [] => by simp
 | [x] => by simp
 | x :: y :: r => by
   have := join_ge c (y :: r)
   rw [join_cc]
   simp only [List.length_append, List.length_cons, List.length_nil] at this ⊢
   omega
theorem split_join {c : UInt8} {ws : List (List UInt8)} (h0 : ws ≠ []) (h : ∀ w ∈ ws, c ∉ w) : Lib.split (Lib.join ws [c]) [c] = ws :=
 splitK_join ws _ h0 h (count_join ws _ h0 h (join_ge c ws))
theorem dig_nat (d : Nat) (h : d < 10) : (UInt8.ofNat (48 + d)).toNat = 48 + d := by
 have : ∀ d, d < 10 → (UInt8.ofNat (48 + d)).toNat = 48 + d := by decide
 exact this d h
theorem parse_dec : ∀ (n u : Nat), u ≤ n → u < 10 ^ 12 → ∀ r, Lib.parseUint10 0 (Lib.decDigits u ++ r) = Lib.parseUint10 u r := by
 intro n
 induction n with
 | zero =>
   intro u hu h r
   rw [Lib.decDigits, dif_pos (by omega), List.singleton_append, Lib.parseUint10, dig_nat u (by omega)]
   rw [if_pos (by omega), if_neg (by omega), if_neg (by omega)]
   congr 1; omega
 | succ n ih =>
   intro u hu h r
   rw [Lib.decDigits]
   split
   · rename_i h10
     rw [List.singleton_append, Lib.parseUint10, dig_nat u h10]
     rw [if_pos (by omega), if_neg (by omega), if_neg (by omega)]
     congr 1; omega
   · rename_i h10
     have hm : u % 10 < 10 := Nat.mod_lt _ (by decide)
     rw [List.append_assoc, ih (u / 10) (by omega) (by omega), List.singleton_append, Lib.parseUint10, dig_nat _ hm]
     rw [if_pos (by omega), if_neg (by omega), if_neg (by omega)]
     congr 1; omega
theorem mag_dec (u : Nat) (h : u < 10 ^ 12) : Lib.parseMag (Lib.decDigits u) = .ok u := by
 unfold Lib.parseMag
 rw [if_neg (dec_digits (u + 1) u (by omega)).1]
 have := parse_dec u u (Nat.le_refl _) h []
 rw [List.append_nil] at this
 rw [this, Lib.parseUint10]
theorem atoi_itoa (n : Int) (h0 : -10 ^ 9 < n) (h1 : n < 10 ^ 9) : Lib.atoiAll (Lib.itoa n) = .ok n := by
 unfold Lib.itoa
 split
 · rename_i hn
   unfold Lib.atoiAll
   have e45 : (45 : UInt8).toNat = 45 := rfl
   simp only [e45]
   rw [if_pos (Or.inr trivial), mag_dec _ (by omega)]
   simp only
   rw [if_neg (by simp), if_neg (by simp; omega)]
   simp; omega
 · rename_i hn
   have hm := mag_dec n.toNat (by omega)
   obtain ⟨d1, d2⟩ := dec_digits (n.toNat + 1) n.toNat (by omega)
   cases hd : Lib.decDigits n.toNat with
   | nil => exact absurd hd d1
   | cons b r =>
     rw [hd] at hm
     have hb := d2 b (by rw [hd]; exact List.mem_cons_self)
     have hb2 : b.toNat ≠ 43 ∧ b.toNat ≠ 45 := by
      simp only [digs, List.contains_eq_mem, List.mem_cons, List.not_mem_nil, or_false, decide_eq_true_eq] at hb
      rcases hb with rfl | rfl | rfl | rfl | rfl | rfl | rfl | rfl | rfl | rfl <;> decide
     unfold Lib.atoiAll
     simp only
     rw [if_neg (by omega), hm]
     simp only
     rw [if_neg (by omega), if_neg (by omega), if_neg (by omega)]
     simp; omega
theorem num_itoa {n : Int} (h0 : -10 ^ 9 < n) (h1 : n < 10 ^ 9) : numN (Lib.itoa n) = n ∧ numOk (Lib.itoa n) = true := by
 have h := atoi_itoa n h0 h1
 refine ⟨by unfold numN; rw [h], ?_⟩
 unfold numOk isAtoi
 rw [h, trim_itoa]
 have := dec_len 8 n.natAbs (by omega)
 simp; omega
theorem itoa_ch {n : Int} {c : UInt8} (h : c ∈ Lib.itoa n) : c = 45 ∨ digs.contains c = true := by
 unfold Lib.itoa at h
 split at h
 · rcases List.mem_cons.1 h with q | q
   · exact .inl q
   · exact .inr ((dec_digits (n.natAbs + 1) n.natAbs (by omega)).2 c q)
 · exact .inr ((dec_digits (n.toNat + 1) n.toNat (by omega)).2 c h)
theorem itoa_ne (n : Int) : Lib.itoa n ≠ [] := by
 unfold Lib.itoa
 split
 · simp
 · exact (dec_digits (n.toNat + 1) n.toNat (by omega)).1
theorem itoa_32 (n : Int) : (32 : UInt8) ∉ Lib.itoa n := fun h => by
 rcases itoa_ch h with q | q
 · revert q; decide
 · revert q; decide
theorem itoa_10 (n : Int) : (10 : UInt8) ∉ Lib.itoa n := fun h => by
 rcases itoa_ch h with q | q
 · revert q; decide
 · revert q; decide
theorem join_no {c : UInt8} {sep : List UInt8} (hs : c ∉ sep) : ∀ {ws : List (List UInt8)}, (∀ w ∈ ws, c ∉ w) → c ∉ Lib.join ws sep
 | [], _ => by simp [Lib.join_nil]
 | [x], h => by rw [Lib.join_one]; exact h x (by simp)
 | x :: y :: r, h => by
   have ih := join_no hs (ws := y :: r) (fun w hw => h w (List.mem_cons_of_mem _ hw))
   have hx := h x (by simp)
   rw [join_cc]
   simp only [List.mem_append, not_or]
   exact ⟨⟨hx, hs⟩, ih⟩
theorem lines_back {α : Type} {tk : List UInt8 → List α → Bool × List α} {pf : α → List Part} {Q : α → Prop}
 (h1 : ∀ p, Q p → (10 : UInt8) ∉ Lib.join ((pf p).map partS) [32]) (h2 : ∀ p l, Q p → tk (Lib.join ((pf p).map partS) [32]) l = (true, l ++ [p])) :
 ∀ (m : List α) (n a : Nat) (l : List α), (∀ p ∈ m, Q p) → m.length < n → lnsF tk n a (txF pf m) l = ((0, true), l ++ m)
 | [], n, a, l, _, hn => by
   obtain ⟨n, rfl⟩ : ∃ k, n = k + 1 := ⟨n - 1, by simp at hn; omega⟩
   simp [lnsF, txF]
 | p :: m, n, a, l, hq, hn => by
   obtain ⟨n, rfl⟩ : ∃ k, n = k + 1 := ⟨n - 1, by simp at hn; omega⟩
   have hp := hq p (by simp)
   have e : txF pf (p :: m) = Lib.join ((pf p).map partS) [32] ++ 10 :: txF pf m := by simp [txF, lnB]
   have hc := cutB (b := txF pf m) (h1 p hp)
   rw [e]
   unfold lnsF
   rw [if_neg (by simp), hc]
   simp only
   rw [if_neg (by simp), h2 p l hp]
   simp only
   rw [if_neg (by simp), lines_back h1 h2 m n (a + 1) (l ++ [p]) (fun q hm => hq q (List.mem_cons_of_mem _ hm)) (by simp at hn ⊢; omega)]
   simp
theorem txF_ge {α : Type} {pf : α → List Part} : ∀ (l : List α), l.length ≤ (txF pf l).length
 | [] => by simp
 | x :: r => by
   have := txF_ge (pf := pf) r
   simp only [txF, List.map_cons, List.flatten_cons, List.length_append, List.length_cons, lnB, List.length_nil] at this ⊢
   omega
theorem txF_le {α : Type} {pf : α → List Part} {N : Nat} : ∀ {l : List α}, (∀ p ∈ l, (lnB (pf p)).length ≤ N) → (txF pf l).length ≤ l.length * N := by
 intro l
 induction l with
 | nil => intro _; simp [txF]
 | cons x r ih =>
   intro h
   have h1 := h x List.mem_cons_self
   have h2 := ih (fun p hp => h p (List.mem_cons_of_mem _ hp))
   simp only [txF, List.map_cons, List.flatten_cons, List.length_append, List.length_cons] at h2 ⊢
   rw [Nat.add_mul, Nat.one_mul]; omega
theorem key_no {s : List UInt8} (h : isKeyB s = true) : ((32 : UInt8) ∉ s ∧ (10 : UInt8) ∉ s) ∧ s ≠ [] ∧ s.length ≤ 40 := by
 unfold isKeyB at h
 rw [Bool.and_eq_true, Bool.and_eq_true] at h
 obtain ⟨⟨h1, h2⟩, h3⟩ := h
 have hc : ∀ c ∈ s, c ≠ 32 ∧ c ≠ 10 := fun c hc => by
  obtain ⟨i, hi, rfl⟩ := mem_getD (d := 0) hc
  have := List.all_eq_true.1 h1 i (List.mem_range.2 hi)
  rw [keyCh_iff] at this
  constructor
  · intro e; rw [e] at this; revert this; show ¬ _; simp
  · intro e; rw [e] at this; revert this; show ¬ _; simp
 exact ⟨⟨fun q => (hc _ q).1 rfl, fun q => (hc _ q).2 rfl⟩, by simpa using h2, by simpa using h3⟩
theorem redF_back {α : Type} {tk : List UInt8 → List α → Bool × List α} {fe : List α → Int} {pf : α → List Part} {Q : α → Prop} {l : List α}
 (h1 : ∀ p, Q p → (10 : UInt8) ∉ Lib.join ((pf p).map partS) [32]) (h2 : ∀ p l, Q p → tk (Lib.join ((pf p).map partS) [32]) l = (true, l ++ [p]))
 (hq : ∀ p ∈ l, Q p) (hf : fe l = 0) (hs : (txF pf l).length ≤ 200000) : redF tk fe (txF pf l) = (l, 0, 0) := by
 have hb := lines_back h1 h2 l ((txF pf l).length + 1) 0 [] hq (by have := txF_ge (pf := pf) l; omega)
 unfold redF
 rw [hb]
 have : decide (200000 < (txF pf l).length) = false := by simp; omega
 simp [this, hf]
def mrkQ (p : Mrk) : Prop := isKeyB p.pan = true ∧ (1 ≤ p.kind ∧ p.kind ≤ 4) ∧ (0 ≤ p.x ∧ p.x ≤ 5000) ∧ (0 ≤ p.y ∧ p.y ≤ 5000) ∧ (1 ≤ p.size ∧ p.size ≤ 2000)
theorem mrkQ_of {l : List Mrk} (h : mrksE l = 0) : l.length ≤ 60 ∧ ∀ p ∈ l, mrkQ p := by
 unfold mrksE at h
 split at h
 · cases h
 · refine ⟨by omega, fun p hp => ?_⟩
   obtain ⟨i, hi, rfl⟩ := mem_getD (d := mk0) hp
   have := firstAt_all h i hi
   unfold mrkE at this
   simp only at this
   unfold mrkQ
   grind
theorem kind_no (i : Nat) : (32 : UInt8) ∉ kindsL.getD i [] ∧ (10 : UInt8) ∉ kindsL.getD i [] := by
 rcases i with _ | _ | _ | _ | _ | i <;> simp [kindsL]
theorem mrk_w {p : Mrk} : (mrkP p).map partS = [p.pan, kindsL.getD p.kind.toNat [], Lib.itoa p.x, Lib.itoa p.y, Lib.itoa p.size] := rfl
theorem kix_kind {k : Int} (h : 1 ≤ k ∧ k ≤ 4) : kix (kindsL.getD k.toNat []) = k ∧ kindsL.getD k.toNat [] ≠ [] := by
 have : k = 1 ∨ k = 2 ∨ k = 3 ∨ k = 4 := by omega
 rcases this with rfl | rfl | rfl | rfl <;> decide +kernel
theorem mrk_ln10 (p : Mrk) (h : mrkQ p) : (10 : UInt8) ∉ Lib.join ((mrkP p).map partS) [32] := by
 rw [mrk_w]
 refine join_no (by decide) fun w hw => ?_
 simp only [List.mem_cons, List.not_mem_nil, or_false] at hw
 rcases hw with rfl | rfl | rfl | rfl | rfl
 · exact (key_no h.1).1.2
 · exact (kind_no _).2
 · exact itoa_10 _
 · exact itoa_10 _
 · exact itoa_10 _
theorem mrk_tk (p : Mrk) (l : List Mrk) (h : mrkQ p) : tkMrk (Lib.join ((mrkP p).map partS) [32]) l = (true, l ++ [p]) := by
 obtain ⟨h1, h2, h3, h4, h5⟩ := h
 obtain ⟨⟨k1, _⟩, k2, _⟩ := key_no h1
 obtain ⟨x1, x2⟩ := num_itoa (n := p.x) (by omega) (by omega)
 obtain ⟨y1, y2⟩ := num_itoa (n := p.y) (by omega) (by omega)
 obtain ⟨s1, s2⟩ := num_itoa (n := p.size) (by omega) (by omega)
 obtain ⟨j1, j2⟩ := kix_kind h2
 have hsp : Lib.split (Lib.join ((mrkP p).map partS) [32]) [32] = [p.pan, kindsL.getD p.kind.toNat [], Lib.itoa p.x, Lib.itoa p.y, Lib.itoa p.size] := by
  rw [mrk_w]
  refine split_join (by simp) fun w hw => ?_
  simp only [List.mem_cons, List.not_mem_nil, or_false] at hw
  rcases hw with rfl | rfl | rfl | rfl | rfl
  · exact k1
  · exact (kind_no _).1
  · exact itoa_32 _
  · exact itoa_32 _
  · exact itoa_32 _
 have hw : wrdsOk [p.pan, kindsL.getD p.kind.toNat [], Lib.itoa p.x, Lib.itoa p.y, Lib.itoa p.size] = true := by
  unfold wrdsOk
  have a1 := itoa_ne p.x
  have a2 := itoa_ne p.y
  have a3 := itoa_ne p.size
  simp only [Bool.not_eq_true', decide_eq_false_iff_not, List.mem_cons, List.not_mem_nil, or_false, not_or]
  exact ⟨fun q => k2 q.symm, fun q => j2 q.symm, fun q => a1 q.symm, fun q => a2 q.symm, fun q => a3 q.symm⟩
 unfold tkMrk
 rw [hsp, hw]
 have e1 : List.getD [p.pan, kindsL.getD p.kind.toNat [], Lib.itoa p.x, Lib.itoa p.y, Lib.itoa p.size] 1 [] = kindsL.getD p.kind.toNat [] := rfl
 have e0 : List.getD [p.pan, kindsL.getD p.kind.toNat [], Lib.itoa p.x, Lib.itoa p.y, Lib.itoa p.size] 0 [] = p.pan := rfl
 have e2 : List.drop 2 [p.pan, kindsL.getD p.kind.toNat [], Lib.itoa p.x, Lib.itoa p.y, Lib.itoa p.size] = [Lib.itoa p.x, Lib.itoa p.y, Lib.itoa p.size] := rfl
 have e3 : List.getD (List.map numN [Lib.itoa p.x, Lib.itoa p.y, Lib.itoa p.size]) 0 0 = numN (Lib.itoa p.x) := rfl
 have e4 : List.getD (List.map numN [Lib.itoa p.x, Lib.itoa p.y, Lib.itoa p.size]) 1 0 = numN (Lib.itoa p.y) := rfl
 have e5 : List.getD (List.map numN [Lib.itoa p.x, Lib.itoa p.y, Lib.itoa p.size]) 2 0 = numN (Lib.itoa p.size) := rfl
 have e6 : List.all [Lib.itoa p.x, Lib.itoa p.y, Lib.itoa p.size] numOk = true := by simp [x2, y2, s2]
 rw [e1, e0, e2, e3, e4, e5, e6, x1, y1, s1, j1]
 have e7 : decide (1 ≤ p.kind) = true := by simp; omega
 simp [e7]
theorem lnB_mrk {p : Mrk} (h : mrkQ p) : (lnB (mrkP p)).length ≤ 2^7 := by
 obtain ⟨h1, h2, h3, h4, h5⟩ := h
 have k := (key_no h1).2.2
 have e1 := itoa_len (n := p.x) (by omega) (by omega)
 have e2 := itoa_len (n := p.y) (by omega) (by omega)
 have e3 := itoa_len (n := p.size) (by omega) (by omega)
 have e4 := kinds_len p.kind.toNat
 unfold lnB
 rw [mrk_w]
 simp only [join_cc, Lib.join_one, List.length_append, List.length_cons, List.length_nil]
 omega
theorem mrks_back {l : List Mrk} (h : mrksE l = 0) : redF tkMrk mrksE (txF mrkP l) = (l, 0, 0) ∧ (txF mrkP l).length ≤ 7680 := by
 obtain ⟨h1, h2⟩ := mrkQ_of h
 have h3 := txF_le (pf := mrkP) (l := l) (fun p hp => lnB_mrk (h2 p hp))
 have h4 : l.length * 2^7 ≤ 60 * 2^7 := Nat.mul_le_mul_right _ h1
 exact ⟨redF_back mrk_ln10 mrk_tk h2 h (by omega), by omega⟩
theorem mrkQ_1 {p : Mrk} (h : mrkQ p) : mrk1 p := by
 obtain ⟨h1, h2, h3, h4, h5⟩ := h
 have k := (key_no h1).2.2
 exact ⟨⟨by omega, by omega⟩, ⟨by omega, by omega⟩, ⟨by omega, by omega⟩, by omega, by omega⟩
structure Ntr where
 name : Int
 pay : Int
 step : Int
 late : Int
structure Ntc where
 key : List UInt8
 plate : List UInt8
 tm : Int
 came : Int
 cents : Int
end Go.Proofs.YtgeakdcbpjmkbaaGreatDoor
namespace Go.Proofs
open Go.Shelf
end Go.Proofs
set_option maxRecDepth 20000
namespace Go.Proofs.YtgeakdcbpjmkbaaGreatDoor
open Go Go.Eng Go.RowKit
structure Ent where
 tm : Int
 desk : List UInt8
 no : Int
 words : List UInt8
theorem lz53 (n : Nat) (L : Nat → Int) (hL : Rok n L) (a : Int) (h0 : 0 ≤ a) (ha : a ≤ 2^37) :
 FSpec Tryz.prog 53 [.ptr 1000000 0] [(1000000, strm n L a), (1000009, KX)] (fun y r => (∃ t : List UInt8, t.length ≤ 2^18 ∧ y = .d (.str t)) ∧ MovedK n L a 110 r) := by
 refine spec_of hT (C := []) Tryz.func53 rfl Tryz.call53 rfl rfl rfl ?_
 conv => whnf
 repeat' (first | (refine CallX.of (s64 n L hL _ ?_ ?_ 0 4 ?_ ?_ ?_ ?_) [(1000000, 1000000)] rfl ⟨lr, lr, lr, trivial⟩ ⟨rr, trivial⟩ rfl rfl ?_; rotate_right; rintro x rout ⟨⟨u0, hu1, hu2, rfl⟩, ⟨c, c1, c2, rfl⟩⟩; refine ⟨rfl, ?_⟩; conv => whnf) | (refine CallX.of (s96 n L hL _ (by omega) (by omega) u0 (by omega) (by omega)) [(1000000, 1000000)] rfl ⟨lr, lr, trivial⟩ ⟨rr, trivial⟩ rfl rfl ?_; rintro x rout ⟨⟨l, hl, rfl⟩, ⟨c1, hc11, hc12, rfl⟩⟩; refine ⟨rfl, ?_⟩; conv => whnf) | (refine br_intro ?_ ?_ <;> intro hb <;> (try simp only [brs] at hb) <;> conv => whnf) | omega | (refine And.intro ?_ ?_; ((try dsimp only); first | omega | (refine szA rfl ?_; omega) | (refine szB rfl ?_; omega) | (unfold inI64; omega) | exact rfl | (simp only [List.toList_toArray, List.length_cons, List.length_nil]; omega) | (simp only [lns] at *; omega) | decide | (unfold inI64; decide)); conv => whnf) | decide | assumption)
 have hf := s195 l (mkG_ok hl (by omega))
 by_cases E : mrksE l = 0
 · have hb := mrks_back E
   obtain ⟨q1, q2⟩ := mrkQ_of E
   have hm := lz52 l ⟨by omega, fun p hp => mrkQ_1 (q2 p hp)⟩
   rw [E] at hf
   generalize txF mrkP l = T at hm hb
   have hT3 := hb.2
   repeat' (first | (refine CallX.exact (hf) rfl rfl ?_; rotate_right; conv => whnf) | (refine CallX.kn hm rfl rfl rfl rfl ?_; conv => whnf) | (refine CallX.of (s33 n L hL _ ?_ ?_ [0, 0, 1, 2] ?_ ?_) [(1000000, 1000000)] rfl ⟨lr, SV.le_lit rfl rfl, trivial⟩ ⟨rr, trivial⟩ rfl rfl ?_; rotate_right; rintro x rout ⟨⟨u1, hu3, rfl⟩, ⟨c, c1, c2, rfl⟩⟩; refine ⟨rfl, ?_⟩; conv => whnf) | (refine br_intro ?_ ?_ <;> intro hb <;> (try simp only [brs] at hb) <;> conv => whnf) | omega | (refine And.intro ?_ ?_; ((try dsimp only); first | omega | (refine szA rfl ?_; omega) | (refine szB rfl ?_; omega) | (unfold inI64; omega) | exact rfl | (simp only [List.toList_toArray, List.length_cons, List.length_nil]; omega) | (simp only [lns] at *; omega) | decide | (unfold inI64; decide)); conv => whnf) | decide | assumption)
   have hu4 := pick4 hu3
   refine LoopX.rule hT (C := []) (ι := Int × List UInt8 × Nat) (fun (b, t, k) => (a ≤ b ∧ b ≤ a + 92 + 4 * k) ∧ ((k : Int) ≤ u1 ∧ t.length ≤ 2^17 + 20 * k))
    (fun (b, t, k) => mkSt [(0, .ptr 1000000 0), (3, .d (.str t)), (16, .d (.int .i64 u1)), (17, .d (.int .i64 k))] [(1000000, strm n L b), (1000009, KX)]) (fun (_, _, k) => 2 - k) (c, _, 0) ⟨⟨?_, ?_⟩, ?_, ?_⟩ (by (refine Entails.mk' [(1000000, 1000000), (1000009, 1000009)] rfl rfl ?_ ?_ <;> repeat' (first | exact True.intro | exact lr | exact rr | exact SV.le_int (by omega) | exact SV.le_any _ | refine And.intro ?_ ?_)); done) ?_
   · omega
   · simp <;> omega
   · simp <;> omega
   · simp <;> omega
   rintro ⟨b, t, k⟩ ⟨⟨p1, p2⟩, p3, p4⟩
   conv => whnf
   repeat' (first | (refine CallX.of (s74 n L hL _ ?_ ?_ t _ ?_ ?_) [(1000000, 1000000)] rfl ⟨lr, lr, lr, trivial⟩ ⟨rr, trivial⟩ rfl rfl ?_; rotate_right; rintro x rout ⟨⟨u, hu, rfl⟩, ⟨c, c1, c2, rfl⟩⟩; refine ⟨rfl, ?_⟩; conv => whnf) | (refine br_intro ?_ ?_ <;> intro hb <;> (try simp only [brs] at hb) <;> conv => whnf) | omega | (refine And.intro ?_ ?_; ((try dsimp only); first | omega | (refine szA rfl ?_; omega) | (refine szB rfl ?_; omega) | (unfold inI64; omega) | exact rfl | (simp only [List.toList_toArray, List.length_cons, List.length_nil]; omega) | (simp only [lns] at *; omega) | decide | (unfold inI64; decide)); conv => whnf) | decide | assumption)
   · simp only [List.toList_toArray, List.length_cons, List.length_nil] at hu
     exact ⟨(c, u, k + 1), ⟨⟨by omega, by omega⟩, by omega, by omega⟩, by show 2 - (k + 1) < 2 - k; omega, (by (refine Entails.mk' [(1000000, 1000000), (1000009, 1000009)] rfl rfl ?_ ?_ <;> repeat' (first | exact True.intro | exact lr | exact rr | exact SV.le_int (by omega) | exact SV.le_any _ | refine And.intro ?_ ?_)); done)⟩
   · refine .ret _ ?_
     conv => whnf
     exact ⟨[(1000000, strm n L b), (1000009, KX)], ⟨⟨t, by omega, rfl⟩, ⟨b, by omega, by omega, rfl⟩⟩, rr, rr, trivial⟩
 · generalize mrksE l = e at E hf
   repeat' (first | (refine CallX.exact (hf) rfl rfl ?_; rotate_right; conv => whnf) | (refine CallX.of (s33 n L hL _ ?_ ?_ [0, 0, 1, 2] ?_ ?_) [(1000000, 1000000)] rfl ⟨lr, SV.le_lit rfl rfl, trivial⟩ ⟨rr, trivial⟩ rfl rfl ?_; rotate_right; rintro x rout ⟨⟨u1, hu3, rfl⟩, ⟨c, c1, c2, rfl⟩⟩; refine ⟨rfl, ?_⟩; conv => whnf) | (refine br_intro ?_ ?_ <;> intro hb <;> (try simp only [brs] at hb) <;> conv => whnf) | omega | (refine And.intro ?_ ?_; ((try dsimp only); first | omega | (refine szA rfl ?_; omega) | (refine szB rfl ?_; omega) | (unfold inI64; omega) | exact rfl | (simp only [List.toList_toArray, List.length_cons, List.length_nil]; omega) | (simp only [lns] at *; omega) | decide | (unfold inI64; decide)); conv => whnf) | decide | assumption)
   have hu4 := pick4 hu3
   refine LoopX.rule hT (C := []) (ι := Int × List UInt8 × Nat) (fun (b, t, k) => (a ≤ b ∧ b ≤ a + 92 + 4 * k) ∧ ((k : Int) ≤ u1 ∧ t.length ≤ 2^17 + 20 * k))
    (fun (b, t, k) => mkSt [(0, .ptr 1000000 0), (3, .d (.str t)), (16, .d (.int .i64 u1)), (17, .d (.int .i64 k))] [(1000000, strm n L b), (1000009, KX)]) (fun (_, _, k) => 2 - k) (c, _, 0) ⟨⟨?_, ?_⟩, ?_, ?_⟩ (by (refine Entails.mk' [(1000000, 1000000), (1000009, 1000009)] rfl rfl ?_ ?_ <;> repeat' (first | exact True.intro | exact lr | exact rr | exact SV.le_int (by omega) | exact SV.le_any _ | refine And.intro ?_ ?_)); done) ?_
   · omega
   · simp <;> omega
   · simp <;> omega
   · simp <;> omega
   rintro ⟨b, t, k⟩ ⟨⟨p1, p2⟩, p3, p4⟩
   conv => whnf
   repeat' (first | (refine CallX.of (s74 n L hL _ ?_ ?_ t _ ?_ ?_) [(1000000, 1000000)] rfl ⟨lr, lr, lr, trivial⟩ ⟨rr, trivial⟩ rfl rfl ?_; rotate_right; rintro x rout ⟨⟨u, hu, rfl⟩, ⟨c, c1, c2, rfl⟩⟩; refine ⟨rfl, ?_⟩; conv => whnf) | (refine br_intro ?_ ?_ <;> intro hb <;> (try simp only [brs] at hb) <;> conv => whnf) | omega | (refine And.intro ?_ ?_; ((try dsimp only); first | omega | (refine szA rfl ?_; omega) | (refine szB rfl ?_; omega) | (unfold inI64; omega) | exact rfl | (simp only [List.toList_toArray, List.length_cons, List.length_nil]; omega) | (simp only [lns] at *; omega) | decide | (unfold inI64; decide)); conv => whnf) | decide | assumption)
   · simp only [List.toList_toArray, List.length_cons, List.length_nil] at hu
     exact ⟨(c, u, k + 1), ⟨⟨by omega, by omega⟩, by omega, by omega⟩, by show 2 - (k + 1) < 2 - k; omega, (by (refine Entails.mk' [(1000000, 1000000), (1000009, 1000009)] rfl rfl ?_ ?_ <;> repeat' (first | exact True.intro | exact lr | exact rr | exact SV.le_int (by omega) | exact SV.le_any _ | refine And.intro ?_ ?_)); done)⟩
   · refine .ret _ ?_
     conv => whnf
     exact ⟨[(1000000, strm n L b), (1000009, KX)], ⟨⟨t, by omega, rfl⟩, ⟨b, by omega, by omega, rfl⟩⟩, rr, rr, trivial⟩
theorem mrkQ_ok {l : List Mrk} (h : mrksE l = 0) : mkOk l :=
 ⟨by have := (mrkQ_of h).1; omega, fun p hp => by
   have := (key_no ((mrkQ_of h).2 p hp).1).2.2
   show p.pan.length ≤ 2^40
   omega⟩
theorem lz51g {l : List Mrk} (h : mrksE l = 0) : FSpec Tryz.prog 51 [.d (mrks l)] kx (fun x r => x = .tup [.d (.str (txF mrkP l)), .d (.int .i64 0)] ∧ r = kx) := by
 have := lz51 l (mrkQ_ok h) ⟨by have := (mrkQ_of h).1; omega, fun _ p hp => mrkQ_1 ((mrkQ_of h).2 p hp)⟩
 rw [if_pos h, h] at this
 exact this
end Go.Proofs.YtgeakdcbpjmkbaaGreatDoor
