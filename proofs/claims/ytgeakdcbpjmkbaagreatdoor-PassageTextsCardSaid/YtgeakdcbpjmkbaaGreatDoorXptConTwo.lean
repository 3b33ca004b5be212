/- PassageTexts is proved: for every input the law returns true, and its argument reads afterwards as it read before. Conditions: those of the given row alone. -/
import Derived.Test.YtgeakdcbpjmkbaaGreatDoorXptConOne
import Derived.Test.YtgeakdcbpjmkbaaGreatDoorXptEngTwo
set_option linter.unusedVariables false
set_option linter.unusedSimpArgs false
set_option maxRecDepth 20000
namespace Go.Proofs.YtgeakdcbpjmkbaaGreatDoor
open Go Go.Eng
def pOk1 (p : Pas) : Prop := p.gate.length ≤ 8 ∧ p.plate.length ≤ 8 ∧ (-2^40 ≤ p.tm ∧ p.tm ≤ 2^40) ∧ -2^40 ≤ p.cents ∧ p.cents ≤ 2^40
def pSh (l : List Pas) (k : Nat) : Prop := l.length ≤ k ∧ ∀ p ∈ l, pOk1 p
theorem pSh_snoc {l : List Pas} {k : Nat} {x : Pas} (h : pSh l k) (hx : pOk1 x) : pSh (l ++ [x]) (k + 1) := by
 refine ⟨by rw [List.length_append]; simpa using h.1, fun p hp => ?_⟩
 rcases List.mem_append.1 hp with q | q
 · exact h.2 p q
 · simp at q; subst q; exact hx
theorem pSh_put {l : List Pas} {k m : Nat} {i : Nat} {x : Pas} (h : pSh l k) (hm : k ≤ m) (hx : i < l.length → pOk1 x) : pSh (l.set i x) m := by
 refine ⟨by have := h.1; rw [List.length_set]; omega, fun p hp => ?_⟩
 by_cases hi : i < l.length
 · rcases List.mem_or_eq_of_mem_set hp with q | q
   · exact h.2 p q
   · subst q; exact hx hi
 · rw [List.set_eq_of_length_le (by omega)] at hp; exact h.2 p hp
theorem mem_bd {l : List Int} {u : Int} (h : u ∈ l) (q : l.all (fun x => decide (-2^40 ≤ x ∧ x ≤ 2^40)) = true) : -2^40 ≤ u ∧ u ≤ 2^40 := by
 have := List.all_eq_true.1 q u h
 exact of_decide_eq_true this
theorem SV.le_upd {α : Type} {f : α → List DV} {d : α} {l : List α} {k j off : Nat} {ds : List DV} (g : α → α) (hg : ∀ y, setAtD (f y) off ds = f (g y)) :
 SV.le (.d (.ro k l.length fun i => bif Nat.beq i j then setAtD (rowF f d l i) off ds else rowF f d l i)) (.d (seqD k f d (l.set j (g (l.getD j d))))) :=
 SV.le_putF fun y hy => by rw [hg, List.getD_eq_getElem?_getD, hy]; rfl
theorem s63 (n : Nat) (L : Nat → Int) (hL : Rok n L) (a : Int) (h0 : 0 ≤ a) (ha : a ≤ 2^38) (m : Int) (hm1 : 0 ≤ m) (hm2 : m ≤ 12) :
 FSpec Tryz.prog 19 [.ptr 1000000 0, .d (.int .i64 m)] [(1000000, strm n L a)] (fun y r => (∃ l, pSh l m.toNat ∧ y = .d (pass l)) ∧ Moved n L a 60 r) := by
 refine spec_of hT (C := []) Tryz.func19 rfl Tryz.call19 rfl rfl rfl ?_
 conv => whnf
 refine LoopX.rule hT (C := []) (ι := Int × List Pas × Nat) (fun (b, l, k) => (a ≤ b ∧ b ≤ a + 4 * k ∧ (k : Int) ≤ m) ∧ pSh l k)
  (fun (b, l, k) => mkSt [(0, .ptr 1000000 0), (5, .buf 5), (7, .d (.int .i64 m)), (8, .d (.int .i64 k))] [(1000000, strm n L b), (5, seqB 51 4 paF pa0 l)])
  (fun (_, _, k) => 12 - k) (a, [], 0) ⟨⟨by simp, by simp, by simpa using hm1⟩, ⟨by simp, by simp⟩⟩ ?_ ?_
 · exact (Entails.nil 5 5 51 4 (rowF paF pa0 []) rfl rfl (by decide)).trans (by (refine Entails.mk' [(1000000, 1000000), (5, 5)] rfl rfl ?_ ?_ <;> repeat' (first | exact True.intro | exact lr | exact rr | exact SV.le_int (by omega) | exact SV.le_any _ | refine And.intro ?_ ?_)); done)
 rintro ⟨b, l, k⟩ ⟨⟨p1, p2, p3⟩, q1⟩
 have hl1 := q1.1
 conv => whnf
 repeat' (first | (refine CallX.of (s33 n L hL _ ?_ ?_ [5, 10, 60, 62, 66, 72, 100, 105, 150, 300, 1440, 1500, 1501] ?_ ?_) [(1000000, 1000000)] rfl ⟨lr, SV.le_lit rfl rfl, trivial⟩ ⟨rr, trivial⟩ rfl rfl ?_; rotate_right; rintro x rout ⟨⟨u1, hu1, rfl⟩, ⟨c, c1, c2, rfl⟩⟩; refine ⟨rfl, ?_⟩; conv => whnf) | (refine CallX.of (s15 n L hL _ ?_ ?_ [[103, 49], [103, 49], [103, 50], [103, 51]] ?_ ?_) [(1000000, 1000000)] rfl ⟨lr, SV.le_lit rfl rfl, trivial⟩ ⟨rr, trivial⟩ rfl rfl ?_; rotate_right; rintro x rout ⟨⟨u2, hu2, rfl⟩, ⟨c, c1, c2, rfl⟩⟩; refine ⟨rfl, ?_⟩; conv => whnf) | (refine CallX.of (s15 n L hL _ ?_ ?_ [[65, 66, 49], [65, 66, 49], [65, 66, 50], [90, 90, 57]] ?_ ?_) [(1000000, 1000000)] rfl ⟨lr, SV.le_lit rfl rfl, trivial⟩ ⟨rr, trivial⟩ rfl rfl ?_; rotate_right; rintro x rout ⟨⟨u3, hu3, rfl⟩, ⟨c, c1, c2, rfl⟩⟩; refine ⟨rfl, ?_⟩; conv => whnf) | (refine CallX.of (s33 n L hL _ ?_ ?_ [0, 30, 30, 80, 500] ?_ ?_) [(1000000, 1000000)] rfl ⟨lr, SV.le_lit rfl rfl, trivial⟩ ⟨rr, trivial⟩ rfl rfl ?_; rotate_right; rintro x rout ⟨⟨u4, hu4, rfl⟩, ⟨c, c1, c2, rfl⟩⟩; refine ⟨rfl, ?_⟩; conv => whnf) | (refine br_intro ?_ ?_ <;> intro hb <;> (try simp only [brs] at hb) <;> conv => whnf) | omega | (refine And.intro ?_ ?_; ((try dsimp only); first | omega | (refine szA rfl ?_; omega) | (refine szB rfl ?_; omega) | (unfold inI64; omega) | exact rfl | (simp only [lns] at *; omega) | decide | (unfold inI64; decide)); conv => whnf) | decide | assumption)
 · refine ⟨(_, _, k + 1), ?_, ?_, Entails.mk' [(1000000, 1000000), (5, 25)] rfl rfl ⟨lr, lr, lr, lr, trivial⟩ ⟨rr, Res.le_snocF (x := ⟨_, _, _, _⟩) rfl, trivial⟩⟩
   · exact ⟨⟨by omega, by omega, by omega⟩, pSh_snoc q1 ⟨mem_len hu2 rfl, mem_len hu3 rfl, mem_bd hu1 rfl, mem_bd hu4 rfl⟩⟩
   · show 12 - (k + 1) < 12 - k; omega
 have hcmp : ∀ l' : List Pas, (∀ x ∈ l', x ∈ l) → ∀ p q, p ∈ l' → q ∈ l' → FSpec Tryz.prog 86 [.agg ((paF p).map .d), .agg ((paF q).map .d)] [] (fun y r => y = .d (.int .i64 (pasCmp p q)) ∧ r = []) :=
  fun l' hs p q hp hq => s127 p q (q1.2 p (hs p hp)).2.2.1 (q1.2 q (hs q hq)).2.2.1
 have heq : ∀ l' : List Pas, (∀ x ∈ l', x ∈ l) → ∀ p q, p ∈ l' → q ∈ l' → FSpec Tryz.prog 88 [.agg ((paF p).map .d), .agg ((paF q).map .d)] [] (fun y r => y = .d (.bool (decide (pasCmp p q = 0))) ∧ r = []) :=
  fun l' hs p q hp hq => s129 p q (q1.2 p (hs p hp)).2.2.1 (q1.2 q (hs q hq)).2.2.1
 refine CallX.of (s126 86 pasCmp l (by omega) (hcmp l fun _ h => h)) [(1000001, 5)] rfl ⟨lr, lr, trivial⟩ ⟨rr, trivial⟩ rfl rfl ?_
 rintro x rout ⟨rfl, c, hc, rfl⟩
 refine ⟨rfl, ?_⟩
 conv => whnf
 repeat' (first | (refine br_intro ?_ ?_ <;> intro hb <;> (try simp only [brs] at hb) <;> conv => whnf) | omega | (refine And.intro ?_ ?_; ((try dsimp only); first | omega | (refine szA rfl ?_; omega) | (refine szB rfl ?_; omega) | (unfold inI64; omega) | exact rfl | (simp only [lns] at *; omega) | decide | (unfold inI64; decide)); conv => whnf) | decide | assumption)
 refine CallX.of (s128 88 (fun p q => decide (pasCmp p q = 0)) c (by have := hc.1; omega) (heq c hc.2)) [(1000001, 5), (64, 100)] rfl ⟨lr, lr, trivial⟩ ⟨rr, trivial⟩ rfl rfl ?_
 rintro x rout ⟨e, he, d, hd, rfl, rfl⟩
 have hsh : pSh e m.toNat := ⟨by have := hc.1; have := he.1; omega, fun p hp => q1.2 p (hc.2 p (he.2 p hp))⟩
 have hl2 := hsh.1
 clear hcmp heq
 rcases hd with rfl | rfl
 · refine ⟨rfl, ?_⟩
   conv => whnf
   repeat' (first | (refine CallX.of (s84 n L hL _ ?_ ?_ _ ?_) [(1000000, 1000000)] rfl ⟨lr, lr, trivial⟩ ⟨rr, trivial⟩ rfl rfl ?_; rotate_right; rintro x rout ⟨⟨f, rfl⟩, ⟨c, c1, c2, rfl⟩⟩; refine ⟨rfl, ?_⟩; conv => whnf) | (refine CallX.of (s86 n L hL _ ?_ ?_ _ ?_) [(1000000, 1000000)] rfl ⟨lr, lr, trivial⟩ ⟨rr, trivial⟩ rfl rfl ?_; rotate_right; rintro x rout ⟨⟨j, hj1, hj2, hj3, rfl⟩, ⟨c, c1, c2, rfl⟩⟩; refine ⟨rfl, ?_⟩; conv => whnf) | (refine CallX.of (s104 n L hL _ ?_ ?_ _ _ ?_ ?_ ?_) [(1000000, 1000000)] rfl ⟨lr, lr, lr, trivial⟩ ⟨rr, trivial⟩ rfl rfl ?_; rotate_right; rintro x rout ⟨⟨u5, hk1, hk2, rfl⟩, ⟨c, c1, c2, rfl⟩⟩; refine ⟨rfl, ?_⟩; conv => whnf) | (refine CallX.of (s15 n L hL _ ?_ ?_ [[110, 111, 110, 101], [], [65]] ?_ ?_) [(1000000, 1000000)] rfl ⟨lr, SV.le_lit rfl rfl, trivial⟩ ⟨rr, trivial⟩ rfl rfl ?_; rotate_right; rintro x rout ⟨⟨u4, hu4, rfl⟩, ⟨c, c1, c2, rfl⟩⟩; refine ⟨rfl, ?_⟩; conv => whnf) | (refine CallX.of (s15 n L hL _ ?_ ?_ [[97], [], [97, 98, 49]] ?_ ?_) [(1000000, 1000000)] rfl ⟨lr, SV.le_lit rfl rfl, trivial⟩ ⟨rr, trivial⟩ rfl rfl ?_; rotate_right; rintro x rout ⟨⟨u4, hu4, rfl⟩, ⟨c, c1, c2, rfl⟩⟩; refine ⟨rfl, ?_⟩; conv => whnf) | (refine br_intro ?_ ?_ <;> intro hb <;> (try simp only [brs] at hb) <;> conv => whnf) | omega | (refine And.intro ?_ ?_; ((try dsimp only); first | omega | (refine szA rfl ?_; omega) | (refine szB rfl ?_; omega) | (unfold inI64; omega) | exact rfl | (simp only [lns] at *; omega) | decide | (unfold inI64; decide)); conv => whnf) | decide | assumption)
   all_goals
    refine .freeze _ 5 51 4 _ _ rfl (.weak _ ?_)
    (conv => whnf)
   · refine ⟨_, [(1000000, strm n L _)], SV.le_upd (fun p => ⟨u5, p.gate, p.plate, p.cents⟩) (fun _ => rfl), ⟨⟨_, ?_, rfl⟩, _, by omega, by omega, rfl⟩, rr, trivial⟩
     exact pSh_put hsh (Nat.le_refl _) (fun h => ⟨(hsh.2 _ (getD_mem h)).1, (hsh.2 _ (getD_mem h)).2.1, ⟨hk1, hk2⟩, (hsh.2 _ (getD_mem h)).2.2.2⟩)
   · refine ⟨_, [(1000000, strm n L _)], SV.le_upd (fun p => ⟨p.tm, u4, p.plate, p.cents⟩) (fun _ => rfl), ⟨⟨_, ?_, rfl⟩, _, by omega, by omega, rfl⟩, rr, trivial⟩
     exact pSh_put hsh (Nat.le_refl _) (fun h => ⟨mem_len hu4 rfl, (hsh.2 _ (getD_mem h)).2⟩)
   · refine ⟨_, [(1000000, strm n L _)], SV.le_upd (fun p => ⟨p.tm, p.gate, u4, p.cents⟩) (fun _ => rfl), ⟨⟨_, ?_, rfl⟩, _, by omega, by omega, rfl⟩, rr, trivial⟩
     exact pSh_put hsh (Nat.le_refl _) (fun h => ⟨(hsh.2 _ (getD_mem h)).1, mem_len hu4 rfl, (hsh.2 _ (getD_mem h)).2.2⟩)
   · refine ⟨_, [(1000000, strm n L _)], SV.le_upd (fun p => ⟨p.tm, p.gate, p.plate, u5⟩) (fun _ => rfl), ⟨⟨_, ?_, rfl⟩, _, by omega, by omega, rfl⟩, rr, trivial⟩
     exact pSh_put hsh (Nat.le_refl _) (fun h => ⟨(hsh.2 _ (getD_mem h)).1, (hsh.2 _ (getD_mem h)).2.1, (hsh.2 _ (getD_mem h)).2.2.1, hk1, hk2⟩)
   all_goals exact ⟨_, [(1000000, strm n L _)], lr, ⟨⟨e, hsh, rfl⟩, _, by omega, by omega, rfl⟩, rr, trivial⟩
 · refine ⟨rfl, ?_⟩
   conv => whnf
   repeat' (first | (refine CallX.of (s84 n L hL _ ?_ ?_ _ ?_) [(1000000, 1000000)] rfl ⟨lr, lr, trivial⟩ ⟨rr, trivial⟩ rfl rfl ?_; rotate_right; rintro x rout ⟨⟨f, rfl⟩, ⟨c, c1, c2, rfl⟩⟩; refine ⟨rfl, ?_⟩; conv => whnf) | (refine CallX.of (s86 n L hL _ ?_ ?_ _ ?_) [(1000000, 1000000)] rfl ⟨lr, lr, trivial⟩ ⟨rr, trivial⟩ rfl rfl ?_; rotate_right; rintro x rout ⟨⟨j, hj1, hj2, hj3, rfl⟩, ⟨c, c1, c2, rfl⟩⟩; refine ⟨rfl, ?_⟩; conv => whnf) | (refine CallX.of (s104 n L hL _ ?_ ?_ _ _ ?_ ?_ ?_) [(1000000, 1000000)] rfl ⟨lr, lr, lr, trivial⟩ ⟨rr, trivial⟩ rfl rfl ?_; rotate_right; rintro x rout ⟨⟨u5, hk1, hk2, rfl⟩, ⟨c, c1, c2, rfl⟩⟩; refine ⟨rfl, ?_⟩; conv => whnf) | (refine CallX.of (s15 n L hL _ ?_ ?_ [[110, 111, 110, 101], [], [65]] ?_ ?_) [(1000000, 1000000)] rfl ⟨lr, SV.le_lit rfl rfl, trivial⟩ ⟨rr, trivial⟩ rfl rfl ?_; rotate_right; rintro x rout ⟨⟨u4, hu4, rfl⟩, ⟨c, c1, c2, rfl⟩⟩; refine ⟨rfl, ?_⟩; conv => whnf) | (refine CallX.of (s15 n L hL _ ?_ ?_ [[97], [], [97, 98, 49]] ?_ ?_) [(1000000, 1000000)] rfl ⟨lr, SV.le_lit rfl rfl, trivial⟩ ⟨rr, trivial⟩ rfl rfl ?_; rotate_right; rintro x rout ⟨⟨u4, hu4, rfl⟩, ⟨c, c1, c2, rfl⟩⟩; refine ⟨rfl, ?_⟩; conv => whnf) | (refine br_intro ?_ ?_ <;> intro hb <;> (try simp only [brs] at hb) <;> conv => whnf) | omega | (refine And.intro ?_ ?_; ((try dsimp only); first | omega | (refine szA rfl ?_; omega) | (refine szB rfl ?_; omega) | (unfold inI64; omega) | exact rfl | (simp only [lns] at *; omega) | decide | (unfold inI64; decide)); conv => whnf) | decide | assumption)
   all_goals
    refine .freeze _ 100 51 4 _ _ rfl (.weak _ ?_)
    (conv => whnf)
   · refine ⟨_, [(1000000, strm n L _)], SV.le_upd (fun p => ⟨u5, p.gate, p.plate, p.cents⟩) (fun _ => rfl), ⟨⟨_, ?_, rfl⟩, _, by omega, by omega, rfl⟩, rr, trivial⟩
     exact pSh_put hsh (Nat.le_refl _) (fun h => ⟨(hsh.2 _ (getD_mem h)).1, (hsh.2 _ (getD_mem h)).2.1, ⟨hk1, hk2⟩, (hsh.2 _ (getD_mem h)).2.2.2⟩)
   · refine ⟨_, [(1000000, strm n L _)], SV.le_upd (fun p => ⟨p.tm, u4, p.plate, p.cents⟩) (fun _ => rfl), ⟨⟨_, ?_, rfl⟩, _, by omega, by omega, rfl⟩, rr, trivial⟩
     exact pSh_put hsh (Nat.le_refl _) (fun h => ⟨mem_len hu4 rfl, (hsh.2 _ (getD_mem h)).2⟩)
   · refine ⟨_, [(1000000, strm n L _)], SV.le_upd (fun p => ⟨p.tm, p.gate, u4, p.cents⟩) (fun _ => rfl), ⟨⟨_, ?_, rfl⟩, _, by omega, by omega, rfl⟩, rr, trivial⟩
     exact pSh_put hsh (Nat.le_refl _) (fun h => ⟨(hsh.2 _ (getD_mem h)).1, mem_len hu4 rfl, (hsh.2 _ (getD_mem h)).2.2⟩)
   · refine ⟨_, [(1000000, strm n L _)], SV.le_upd (fun p => ⟨p.tm, p.gate, p.plate, u5⟩) (fun _ => rfl), ⟨⟨_, ?_, rfl⟩, _, by omega, by omega, rfl⟩, rr, trivial⟩
     exact pSh_put hsh (Nat.le_refl _) (fun h => ⟨(hsh.2 _ (getD_mem h)).1, (hsh.2 _ (getD_mem h)).2.1, (hsh.2 _ (getD_mem h)).2.2.1, hk1, hk2⟩)
   all_goals exact ⟨_, [(1000000, strm n L _)], lr, ⟨⟨e, hsh, rfl⟩, _, by omega, by omega, rfl⟩, rr, trivial⟩
def oXTpA95_4 : List (Nat × List Nat) := [(0, []), (1, []), (2, []), (3, [0, 1, 2]), (4, [0, 1, 2]), (5, [0, 1, 2]), (6, []), (7, []), (8, []), (9, []), (10, [9]), (11, [10]), (12, [])]
def oXTpA95_6 : List (Nat × List Nat) := [(0, []), (1, [0]), (2, [0]), (3, [0]), (4, [0, 1, 2, 3]), (5, [0, 1, 2, 3]), (6, [0, 1, 2, 3]), (7, [0, 1, 2, 3, 4, 5, 6]), (8, [0, 1, 2, 3, 4, 5, 6]), (9, [0, 1, 2, 3, 4, 5, 6]), (10, [0, 1, 2, 3, 4, 5, 6, 7, 8, 9]), (11, [0, 1, 2, 3, 4, 5, 6, 7, 8, 9]), (12, [0, 1, 2, 3, 4, 5, 6, 7, 8, 9]), (13, [0]), (14, [0]), (15, []), (16, [])]
def oXTpA97_4 : List (Nat × List Nat) := [(0, []), (1, []), (2, []), (3, [0, 1, 2]), (4, [0, 1, 2]), (5, [0, 1, 2]), (6, []), (7, []), (8, []), (9, []), (10, [9]), (11, [10]), (12, [])]
def oXTpA97_6 : List (Nat × List Nat) := [(0, []), (1, [0]), (2, [0]), (3, [0]), (4, [0, 1, 2, 3]), (5, [0, 1, 2, 3]), (6, [0, 1, 2, 3]), (7, [0, 1, 2, 3, 4, 5, 6]), (8, [0, 1, 2, 3, 4, 5, 6]), (9, [0, 1, 2, 3, 4, 5, 6]), (10, [0, 1, 2, 3, 4, 5, 6, 7, 8, 9]), (11, [0, 1, 2, 3, 4, 5, 6, 7, 8, 9]), (12, [0, 1, 2, 3, 4, 5, 6, 7, 8, 9]), (13, [0]), (14, [0]), (15, []), (16, [])]
def tkPas (line : List UInt8) (l : List Pas) : Bool × List Pas :=
 bif wrdsOk (Lib.split line [32]) && decide ((Lib.split line [32]).length = 4) && [(Lib.split line [32]).getD 0 [], (Lib.split line [32]).getD 3 []].all numOk then
  (true, l ++ [⟨numN ((Lib.split line [32]).getD 0 []), (Lib.split line [32]).getD 1 [], (Lib.split line [32]).getD 2 [], numN ((Lib.split line [32]).getD 3 [])⟩]) else (false, l)
theorem z95 (line : List UInt8) (l : List Pas) (h1 : line.length ≤ 2^20) (h2 : l.length ≤ 2^21) :
 FSpec Tryz.prog 95 [.d (.str line), .ptr 1000005 0] [(1000009, KX), (1000005, capC 42 1000003), (1000003, seqB 51 4 paF pa0 l)] (fun x r => x = .d (.bool (tkPas line l).1) ∧ r = [(1000009, KX), (1000005, capC 42 46), (46, seqB 51 4 paF pa0 (tkPas line l).2)]) := by
 have hsl := split_len line [32] (by decide)
 have hmem : ∀ i, ((Lib.split line [32]).getD i []).length ≤ 2^40 := fun i => by
  rcases Nat.lt_or_ge i (Lib.split line [32]).length with q | q
  · have := split_mem (getD_mem (x := []) q); omega
  · rw [List.getD_eq_getElem?_getD, List.getElem?_eq_none q]; simp
 have hN := z79 [(Lib.split line [32]).getD 0 [], (Lib.split line [32]).getD 3 []] (by simp) (by intro x hx; simp at hx; rcases hx with rfl | rfl <;> exact hmem _)
 unfold tkPas
 generalize hW : Lib.split line [32] = W at hsl hmem hN
 have hWz := z96 line (by omega)
 rw [hW] at hWz
 cases hA : [W.getD 0 [], W.getD 3 []].all numOk with
 | false =>
   rw [hA] at hN
   rw [Bool.and_false, cond_false]
   refine spec_of hT (C := []) Tryz.func95 rfl Tryz.call95 rfl rfl rfl ?_
   conv => whnf
   repeat' (first | (refine CallX.kn hWz rfl rfl rfl rfl ?_; conv => whnf) | (refine CallX.look hN [(1000009, 1000009)] rfl ⟨SV.le_lit rfl rfl, trivial⟩ ⟨⟨_, rfl, rfl⟩, trivial⟩ rfl rfl rfl ?_; conv => whnf) | (refine br_intro ?_ ?_ <;> intro hb <;> (try simp only [brs] at hb) <;> conv => whnf) | (refine RegX.rule (id := 4) hT rfl [] oXTpA95_4 (by decide +kernel) ?_; conv => whnf) | (refine RegX.rule (id := 6) hT rfl [] oXTpA95_6 (by decide +kernel) ?_; conv => whnf) | omega | (refine And.intro ?_ ?_; ((try dsimp only); first | omega | (refine szA rfl ?_; omega) | (refine szB rfl ?_; omega) | (unfold inI64; omega) | exact rfl | (simp only [List.toList_toArray, List.length_cons, List.length_nil]; omega) | (simp only [lns] at *; omega) | decide | (unfold inI64; decide)); conv => whnf) | decide | assumption)
   all_goals
    refine .ent _ (mkSt [(3, .d (.bool false))] [(1000009, KX), (1000005, capC 42 46), (46, seqB 51 4 paF pa0 l)]) (by (refine Entails.mk' [(1000009, 1000009), (1000005, 1000005), (46, 1000003)] rfl rfl ?_ ?_ <;> repeat' (first | exact True.intro | exact lr | exact rr | exact SV.le_int (by omega) | exact SV.le_any _ | refine And.intro ?_ ?_)); done) ?_
    refine .ret _ ?_
    conv => whnf
    exact ⟨[(1000009, KX), (1000005, capC 42 46), (46, seqB 51 4 paF pa0 l)], ⟨rfl, rfl⟩, rr, rr, rr, trivial⟩
 | true =>
   rw [hA] at hN
   rw [Bool.and_true]
   replace hN : FSpec Tryz.prog 79 [.d (strs [W.getD 0 [], W.getD 3 []])] kx (fun x r => x = .tup [.d (ints [numN (W.getD 0 []), numN (W.getD 3 [])]), .d (.bool true)] ∧ r = kx) := hN
   refine spec_of hT (C := []) Tryz.func95 rfl Tryz.call95 rfl rfl rfl ?_
   conv => whnf
   repeat' (first | (refine CallX.kn hWz rfl rfl rfl rfl ?_; conv => whnf) | (refine CallX.look hN [(1000009, 1000009)] rfl ⟨SV.le_lit rfl rfl, trivial⟩ ⟨⟨_, rfl, rfl⟩, trivial⟩ rfl rfl rfl ?_; conv => whnf) | (refine br_intro ?_ ?_ <;> intro hb <;> (try simp only [brs] at hb) <;> conv => whnf) | (refine RegX.rule (id := 4) hT rfl [] oXTpA95_4 (by decide +kernel) ?_; conv => whnf) | (refine RegX.rule (id := 6) hT rfl [] oXTpA95_6 (by decide +kernel) ?_; conv => whnf) | omega | (refine And.intro ?_ ?_; ((try dsimp only); first | omega | (refine szA rfl ?_; omega) | (refine szB rfl ?_; omega) | (unfold inI64; omega) | exact rfl | (simp only [List.toList_toArray, List.length_cons, List.length_nil]; omega) | (simp only [lns] at *; omega) | decide | (unfold inI64; decide)); conv => whnf) | decide | assumption)
   · rw [hb, Bool.false_and, cond_false]
     refine .ent _ (mkSt [(3, .d (.bool false))] [(1000009, KX), (1000005, capC 42 46), (46, seqB 51 4 paF pa0 l)]) (by (refine Entails.mk' [(1000009, 1000009), (1000005, 1000005), (46, 1000003)] rfl rfl ?_ ?_ <;> repeat' (first | exact True.intro | exact lr | exact rr | exact SV.le_int (by omega) | exact SV.le_any _ | refine And.intro ?_ ?_)); done) ?_
     refine .ret _ ?_
     conv => whnf
     exact ⟨[(1000009, KX), (1000005, capC 42 46), (46, seqB 51 4 paF pa0 l)], ⟨rfl, rfl⟩, rr, rr, rr, trivial⟩
   · have hb' : decide (W.length = 4) = false := by simp; omega
     rw [hb', Bool.and_false, cond_false]
     refine .ent _ (mkSt [(3, .d (.bool false))] [(1000009, KX), (1000005, capC 42 46), (46, seqB 51 4 paF pa0 l)]) (by (refine Entails.mk' [(1000009, 1000009), (1000005, 1000005), (46, 1000003)] rfl rfl ?_ ?_ <;> repeat' (first | exact True.intro | exact lr | exact rr | exact SV.le_int (by omega) | exact SV.le_any _ | refine And.intro ?_ ?_)); done) ?_
     refine .ret _ ?_
     conv => whnf
     exact ⟨[(1000009, KX), (1000005, capC 42 46), (46, seqB 51 4 paF pa0 l)], ⟨rfl, rfl⟩, rr, rr, rr, trivial⟩
   · rename_i hb0
     have hb' : decide (W.length = 4) = true := by simp; omega
     rw [hb', hb0, Bool.and_true, cond_true]
     refine .ent _ (mkSt [(3, .d (.bool true))] [(1000009, KX), (1000005, capC 42 46), (46, seqB 51 4 paF pa0 (l ++ [⟨numN (W.getD 0 []), W.getD 1 [], W.getD 2 [], numN (W.getD 3 [])⟩]))]) (by (refine Entails.mk' [(1000009, 1000009), (1000005, 1000005), (46, 46)] rfl rfl ?_ ?_ <;> repeat' (first | exact True.intro | exact lr | exact rr | (exact Res.le_snocF rfl) | exact SV.le_int (by omega) | exact SV.le_any _ | refine And.intro ?_ ?_)); done) ?_
     refine .ret _ ?_
     conv => whnf
     exact ⟨[(1000009, KX), (1000005, capC 42 46), (46, seqB 51 4 paF pa0 _)], ⟨rfl, rfl⟩, rr, rr, rr, trivial⟩
theorem z97 (line : List UInt8) (l : List Pas) (h1 : line.length ≤ 2^20) (h2 : l.length ≤ 2^21) :
 FSpec Tryz.prog 97 [.d (.str line), .ptr 1000005 0] [(1000009, KX), (1000005, capC 42 1000003), (1000003, seqB 51 4 paF pa0 l)] (fun x r => x = .d (.bool (tkPas line l).1) ∧ r = [(1000009, KX), (1000005, capC 42 46), (46, seqB 51 4 paF pa0 (tkPas line l).2)]) := by
 have hsl := split_len line [32] (by decide)
 have hmem : ∀ i, ((Lib.split line [32]).getD i []).length ≤ 2^40 := fun i => by
  rcases Nat.lt_or_ge i (Lib.split line [32]).length with q | q
  · have := split_mem (getD_mem (x := []) q); omega
  · rw [List.getD_eq_getElem?_getD, List.getElem?_eq_none q]; simp
 have hN := z83 [(Lib.split line [32]).getD 0 [], (Lib.split line [32]).getD 3 []] (by simp) (by intro x hx; simp at hx; rcases hx with rfl | rfl <;> exact hmem _)
 unfold tkPas
 generalize hW : Lib.split line [32] = W at hsl hmem hN
 have hWz := z98 line (by omega)
 rw [hW] at hWz
 cases hA : [W.getD 0 [], W.getD 3 []].all numOk with
 | false =>
   rw [hA] at hN
   rw [Bool.and_false, cond_false]
   refine spec_of hT (C := []) Tryz.func97 rfl Tryz.call97 rfl rfl rfl ?_
   conv => whnf
   repeat' (first | (refine CallX.kn hWz rfl rfl rfl rfl ?_; conv => whnf) | (refine CallX.look hN [(1000009, 1000009)] rfl ⟨SV.le_lit rfl rfl, trivial⟩ ⟨⟨_, rfl, rfl⟩, trivial⟩ rfl rfl rfl ?_; conv => whnf) | (refine br_intro ?_ ?_ <;> intro hb <;> (try simp only [brs] at hb) <;> conv => whnf) | (refine RegX.rule (id := 4) hT rfl [] oXTpA97_4 (by decide +kernel) ?_; conv => whnf) | (refine RegX.rule (id := 6) hT rfl [] oXTpA97_6 (by decide +kernel) ?_; conv => whnf) | omega | (refine And.intro ?_ ?_; ((try dsimp only); first | omega | (refine szA rfl ?_; omega) | (refine szB rfl ?_; omega) | (unfold inI64; omega) | exact rfl | (simp only [List.toList_toArray, List.length_cons, List.length_nil]; omega) | (simp only [lns] at *; omega) | decide | (unfold inI64; decide)); conv => whnf) | decide | assumption)
   all_goals
    refine .ent _ (mkSt [(3, .d (.bool false))] [(1000009, KX), (1000005, capC 42 46), (46, seqB 51 4 paF pa0 l)]) (by (refine Entails.mk' [(1000009, 1000009), (1000005, 1000005), (46, 1000003)] rfl rfl ?_ ?_ <;> repeat' (first | exact True.intro | exact lr | exact rr | exact SV.le_int (by omega) | exact SV.le_any _ | refine And.intro ?_ ?_)); done) ?_
    refine .ret _ ?_
    conv => whnf
    exact ⟨[(1000009, KX), (1000005, capC 42 46), (46, seqB 51 4 paF pa0 l)], ⟨rfl, rfl⟩, rr, rr, rr, trivial⟩
 | true =>
   rw [hA] at hN
   rw [Bool.and_true]
   replace hN : FSpec Tryz.prog 83 [.d (strs [W.getD 0 [], W.getD 3 []])] kx (fun x r => x = .tup [.d (ints [numN (W.getD 0 []), numN (W.getD 3 [])]), .d (.bool true)] ∧ r = kx) := hN
   refine spec_of hT (C := []) Tryz.func97 rfl Tryz.call97 rfl rfl rfl ?_
   conv => whnf
   repeat' (first | (refine CallX.kn hWz rfl rfl rfl rfl ?_; conv => whnf) | (refine CallX.look hN [(1000009, 1000009)] rfl ⟨SV.le_lit rfl rfl, trivial⟩ ⟨⟨_, rfl, rfl⟩, trivial⟩ rfl rfl rfl ?_; conv => whnf) | (refine br_intro ?_ ?_ <;> intro hb <;> (try simp only [brs] at hb) <;> conv => whnf) | (refine RegX.rule (id := 4) hT rfl [] oXTpA97_4 (by decide +kernel) ?_; conv => whnf) | (refine RegX.rule (id := 6) hT rfl [] oXTpA97_6 (by decide +kernel) ?_; conv => whnf) | omega | (refine And.intro ?_ ?_; ((try dsimp only); first | omega | (refine szA rfl ?_; omega) | (refine szB rfl ?_; omega) | (unfold inI64; omega) | exact rfl | (simp only [List.toList_toArray, List.length_cons, List.length_nil]; omega) | (simp only [lns] at *; omega) | decide | (unfold inI64; decide)); conv => whnf) | decide | assumption)
   · rw [hb, Bool.false_and, cond_false]
     refine .ent _ (mkSt [(3, .d (.bool false))] [(1000009, KX), (1000005, capC 42 46), (46, seqB 51 4 paF pa0 l)]) (by (refine Entails.mk' [(1000009, 1000009), (1000005, 1000005), (46, 1000003)] rfl rfl ?_ ?_ <;> repeat' (first | exact True.intro | exact lr | exact rr | exact SV.le_int (by omega) | exact SV.le_any _ | refine And.intro ?_ ?_)); done) ?_
     refine .ret _ ?_
     conv => whnf
     exact ⟨[(1000009, KX), (1000005, capC 42 46), (46, seqB 51 4 paF pa0 l)], ⟨rfl, rfl⟩, rr, rr, rr, trivial⟩
   · have hb' : decide (W.length = 4) = false := by simp; omega
     rw [hb', Bool.and_false, cond_false]
     refine .ent _ (mkSt [(3, .d (.bool false))] [(1000009, KX), (1000005, capC 42 46), (46, seqB 51 4 paF pa0 l)]) (by (refine Entails.mk' [(1000009, 1000009), (1000005, 1000005), (46, 1000003)] rfl rfl ?_ ?_ <;> repeat' (first | exact True.intro | exact lr | exact rr | exact SV.le_int (by omega) | exact SV.le_any _ | refine And.intro ?_ ?_)); done) ?_
     refine .ret _ ?_
     conv => whnf
     exact ⟨[(1000009, KX), (1000005, capC 42 46), (46, seqB 51 4 paF pa0 l)], ⟨rfl, rfl⟩, rr, rr, rr, trivial⟩
   · rename_i hb0
     have hb' : decide (W.length = 4) = true := by simp; omega
     rw [hb', hb0, Bool.and_true, cond_true]
     refine .ent _ (mkSt [(3, .d (.bool true))] [(1000009, KX), (1000005, capC 42 46), (46, seqB 51 4 paF pa0 (l ++ [⟨numN (W.getD 0 []), W.getD 1 [], W.getD 2 [], numN (W.getD 3 [])⟩]))]) (by (refine Entails.mk' [(1000009, 1000009), (1000005, 1000005), (46, 47)] rfl rfl ?_ ?_ <;> repeat' (first | exact True.intro | exact lr | exact rr | (exact Res.le_snocF rfl) | exact SV.le_int (by omega) | exact SV.le_any _ | refine And.intro ?_ ?_)); done) ?_
     refine .ret _ ?_
     conv => whnf
     exact ⟨[(1000009, KX), (1000005, capC 42 46), (46, seqB 51 4 paF pa0 _)], ⟨rfl, rfl⟩, rr, rr, rr, trivial⟩
theorem lookL_rot {a b c : Nat} {x y z : Res} (h1 : Nat.beq a c = false) (h2 : Nat.beq b c = false) : lookL [(c, z), (a, x), (b, y)] = lookL [(a, x), (b, y), (c, z)] := by
 have e1 : a ≠ c := fun q => by rw [q] at h1; simp at h1
 have e2 : b ≠ c := fun q => by rw [q] at h2; simp at h2
 funext d
 by_cases q1 : d = a
 · subst q1; simp [lookL, nbeq_ne e1]
 · by_cases q2 : d = b
   · subst q2; simp [lookL, nbeq_ne e2, nbeq_ne q1]
   · simp [lookL, nbeq_ne q1, nbeq_ne q2]
theorem reordF {P : Program} {f : FuncId} {args : List SV} {rin rin' : List (Nat × Res)} {post : SV → List (Nat × Res) → Prop} (h : FSpec P f args rin post) (e : lookL rin' = lookL rin) : FSpec P f args rin' post :=
 ⟨h.enter, fun G β w vs hp hl hd => by
   have := h.calls G β w vs (by rw [← e]; exact hp) hl hd
   rw [e]; exact this⟩
theorem lnsNil {α : Type} {f g ct e k : Nat} {F : α → List DV} {d : α} {text : List UInt8} {post : SV → List (Nat × Res) → Prop} (hk : 0 < k)
 (h : FSpec Tryz.prog f [.d (.str text), .fn g [.ptr 1000005 0]] [(1000009, KX), (1000005, capC ct 1000003), (1000003, seqB e k F d [])] post) :
 FSpec Tryz.prog f [.d (.str text), .fn g [.ptr 1000005 0]] [(1000005, .cells ct [.d .nilsl]), (1000009, KX)] post :=
 FSpec.nilCell (c := 1000005) (d := 1000003) (e := e) (k := k) (j := 0) (ce := ct) (l := [.d .nilsl]) (g := rowF F d []) (rest := [(1000009, KX)]) (reordF h (lookL_rot rfl rfl).symm) hk rfl rfl rfl
def rdF {α : Type} (tk : List UInt8 → List α → Bool × List α) (fe : List α → Int) (text : List UInt8) : List α × Nat × Int :=
 bif decide (200000 < text.length) then ([], 0, 2) else
 bif (lnsF tk (text.length + 1) 0 text []).1.2 then (bif decide (fe (lnsF tk (text.length + 1) 0 text []).2 = 0) then ((lnsF tk (text.length + 1) 0 text []).2, 0, 0) else ([], 0, fe (lnsF tk (text.length + 1) 0 text []).2))
 else ([], (lnsF tk (text.length + 1) 0 text []).1.1, 9)
theorem tkPas_len (line : List UInt8) (l : List Pas) : (tkPas line l).2.length ≤ l.length + 1 := by
 unfold tkPas
 generalize (wrdsOk (Lib.split line [32]) && decide ((Lib.split line [32]).length = 4) && [(Lib.split line [32]).getD 0 [], (Lib.split line [32]).getD 3 []].all numOk) = c
 cases c <;> simp
theorem tk95 : Taker 95 42 51 4 paF pa0 tkPas := ⟨tkPas_len, z95⟩
theorem tk97 : Taker 97 42 51 4 paF pa0 tkPas := ⟨tkPas_len, z97⟩
theorem lnsF_all {α : Type} {tk : List UInt8 → List α → Bool × List α} {Q : α → Prop} {N : Nat} (hQ : ∀ line l, line.length ≤ N → (∀ x ∈ l, Q x) → ∀ x ∈ (tk line l).2, Q x) : ∀ (n a : Nat) (t : List UInt8) (l : List α), t.length ≤ N → (∀ x ∈ l, Q x) → ∀ x ∈ (lnsF tk n a t l).2, Q x := by
 intro n
 induction n with
 | zero => intro a t l _ h; exact h
 | succ n ih =>
   intro a t l ht h
   have h1 := cut_le t
   have h2 := hQ (Lib.cut t [10]).1 l (by omega) h
   unfold lnsF
   split
   · exact h
   · split
     · exact h
     · split
       · exact h2
       · rename_i hc _
         have := cut_len (by simpa using hc)
         exact ih _ _ _ (by omega) h2
theorem lnsF_len {α : Type} {tk : List UInt8 → List α → Bool × List α} (hQ : ∀ line l, (tk line l).2.length ≤ l.length + 1) : ∀ (n a : Nat) (t : List UInt8) (l : List α), (lnsF tk n a t l).2.length ≤ l.length + n := by
 intro n
 induction n with
 | zero => intro a t l; exact Nat.le_refl _
 | succ n ih =>
   intro a t l
   have h2 := hQ (Lib.cut t [10]).1 l
   unfold lnsF
   split
   · simp only; omega
   · split
     · simp only; omega
     · split
       · simp only; omega
       · have := ih (a + 1) (Lib.cut t [10]).2.1 (tk (Lib.cut t [10]).1 l).2
         omega
theorem tkPas_ok (line : List UInt8) (l : List Pas) (h1 : line.length ≤ 2^40) (h : ∀ p ∈ l, p.gate.length ≤ 2^40 ∧ p.plate.length ≤ 2^40) : ∀ p ∈ (tkPas line l).2, p.gate.length ≤ 2^40 ∧ p.plate.length ≤ 2^40 := by
 have hmem : ∀ i, ((Lib.split line [32]).getD i []).length ≤ 2^40 := fun i => by
  rcases Nat.lt_or_ge i (Lib.split line [32]).length with q | q
  · have := split_mem (getD_mem (x := []) q); omega
  · rw [List.getD_eq_getElem?_getD, List.getElem?_eq_none q]; simp
 unfold tkPas
 generalize (wrdsOk (Lib.split line [32]) && decide ((Lib.split line [32]).length = 4) && [(Lib.split line [32]).getD 0 [], (Lib.split line [32]).getD 3 []].all numOk) = c
 cases c with
 | false => exact h
 | true =>
   intro p hp
   rcases List.mem_append.1 hp with q | q
   · exact h p q
   · simp at q; subst q; exact ⟨hmem 1, hmem 2⟩
theorem pOk_rd (text : List UInt8) (ht : text.length ≤ 2^20) : pOk (lnsF tkPas (text.length + 1) 0 text []).2 :=
 ⟨by have := lnsF_len tkPas_len (text.length + 1) 0 text []; simp only [List.length_nil] at this; omega, lnsF_all (N := 2^40) (fun line l h1 h => tkPas_ok line l h1 h) _ _ _ _ (by omega) (by simp)⟩
theorem z24 (text : List UInt8) (ht : text.length ≤ 2^20) : FSpec Tryz.prog 24 [.d (.str text)] kx (fun x r => x = .tup [.d (seqD 4 paF pa0 (rdF tkPas formE text).1), .d (.int .i64 (rdF tkPas formE text).2.1), .d (.int .i64 (rdF tkPas formE text).2.2)] ∧ r = kx) := by
 have hL := lnsNil (by decide) (z75 tk95 text ht [] (by simp))
 have hlen := lnsF_len (tk := tkPas) (tk95).1 (text.length + 1) 0 text []
 have hok := pOk_rd text ht
 unfold rdF
 generalize lnsF tkPas (text.length + 1) 0 text [] = R at hL hlen hok ⊢
 obtain ⟨⟨ra, rb⟩, rl⟩ := R
 refine spec_of hT (C := []) Tryz.func24 rfl Tryz.call24 rfl rfl rfl ?_
 conv => whnf
 repeat' (first | (refine CallX.of hL [(1000005, 5), (1000009, 1000009), (40, 41)] rfl ⟨lr, lr, trivial⟩ ⟨rr, rr, trivial⟩ rfl rfl ?_; rintro x rout ⟨rfl, rfl⟩; refine ⟨rfl, ?_⟩; conv => whnf) | (refine CallX.freeze _ _ _ _ 41 51 4 _ _ rfl rfl ?_; refine CallX.pure (s152 rl hok) ⟨lr, trivial⟩ rfl ?_; conv => whnf) | (refine br_intro ?_ ?_ <;> intro hb <;> (try simp only [brs] at hb) <;> conv => whnf) | omega | (refine And.intro ?_ ?_; ((try dsimp only); first | omega | (refine szA rfl ?_; omega) | (refine szB rfl ?_; omega) | (unfold inI64; omega) | exact rfl | (simp only [List.toList_toArray, List.length_cons, List.length_nil]; omega) | (simp only [lns] at *; omega) | decide | (unfold inI64; decide)); conv => whnf) | decide | assumption)
 · have q : decide (200000 < text.length) = true := by simp; omega
   rw [q, cond_true]
   refine .weak _ ?_
   conv => whnf
   exact ⟨.tup [.d (seqD 4 paF pa0 []), .d (.int .i64 0), .d (.int .i64 2)], kx, SV.le_tup ⟨SV.le_nilS, lr, lr, trivial⟩, ⟨rfl, rfl⟩, rr, trivial⟩
 · have q : decide (200000 < text.length) = false := by simp; omega
   simp only [q, hb, cond_false]
   refine .weak _ ?_
   conv => whnf
   exact ⟨.tup [.d (seqD 4 paF pa0 []), .d (.int .i64 ra), .d (.int .i64 9)], kx, SV.le_tup ⟨SV.le_nilS, lr, lr, trivial⟩, ⟨rfl, rfl⟩, rr, trivial⟩
 · rename_i hb0 hb1
   have q : decide (200000 < text.length) = false := by simp; omega
   have q2 : decide (formE rl = 0) = false := by simp [hb]
   simp only [q, q2, hb1, cond_false, cond_true]
   refine .weak _ ?_
   conv => whnf
   exact ⟨.tup [.d (seqD 4 paF pa0 []), .d (.int .i64 0), .d (.int .i64 (formE rl))], kx, SV.le_tup ⟨SV.le_nilS, lr, lr, trivial⟩, ⟨rfl, rfl⟩, rr, trivial⟩
 · rename_i hb0 hb1
   have q : decide (200000 < text.length) = false := by simp; omega
   have q2 : decide (formE rl = 0) = true := by simp [hb]
   simp only [q, q2, hb1, cond_false, cond_true]
   refine .ret _ ?_
   conv => whnf
   refine ⟨kx, ⟨congrArg SV.tup ?_, rfl⟩, rr, trivial⟩
   repeat' (refine cons_eq ?_ ?_)
   all_goals (conv => lhs; whnf)
   all_goals try (with_reducible rfl)
   all_goals rfl
theorem z25 (text : List UInt8) (ht : text.length ≤ 2^20) : FSpec Tryz.prog 25 [.d (.str text)] kx (fun x r => x = .tup [.d (seqD 4 paF pa0 (rdF tkPas formE text).1), .d (.int .i64 (rdF tkPas formE text).2.1), .d (.int .i64 (rdF tkPas formE text).2.2)] ∧ r = kx) := by
 have hL := lnsNil (by decide) (z80 tk97 text ht [] (by simp))
 have hlen := lnsF_len (tk := tkPas) (tk97).1 (text.length + 1) 0 text []
 have hok := pOk_rd text ht
 unfold rdF
 generalize lnsF tkPas (text.length + 1) 0 text [] = R at hL hlen hok ⊢
 obtain ⟨⟨ra, rb⟩, rl⟩ := R
 refine spec_of hT (C := []) Tryz.func25 rfl Tryz.call25 rfl rfl rfl ?_
 conv => whnf
 repeat' (first | (refine CallX.of hL [(1000005, 5), (1000009, 1000009), (40, 41)] rfl ⟨lr, lr, trivial⟩ ⟨rr, rr, trivial⟩ rfl rfl ?_; rintro x rout ⟨rfl, rfl⟩; refine ⟨rfl, ?_⟩; conv => whnf) | (refine CallX.freeze _ _ _ _ 41 51 4 _ _ rfl rfl ?_; refine CallX.pure (s131 rl hok) ⟨lr, trivial⟩ rfl ?_; conv => whnf) | (refine br_intro ?_ ?_ <;> intro hb <;> (try simp only [brs] at hb) <;> conv => whnf) | omega | (refine And.intro ?_ ?_; ((try dsimp only); first | omega | (refine szA rfl ?_; omega) | (refine szB rfl ?_; omega) | (unfold inI64; omega) | exact rfl | (simp only [List.toList_toArray, List.length_cons, List.length_nil]; omega) | (simp only [lns] at *; omega) | decide | (unfold inI64; decide)); conv => whnf) | decide | assumption)
 · have q : decide (200000 < text.length) = true := by simp; omega
   rw [q, cond_true]
   refine .weak _ ?_
   conv => whnf
   exact ⟨.tup [.d (seqD 4 paF pa0 []), .d (.int .i64 0), .d (.int .i64 2)], kx, SV.le_tup ⟨SV.le_nilS, lr, lr, trivial⟩, ⟨rfl, rfl⟩, rr, trivial⟩
 · have q : decide (200000 < text.length) = false := by simp; omega
   simp only [q, hb, cond_false]
   refine .weak _ ?_
   conv => whnf
   exact ⟨.tup [.d (seqD 4 paF pa0 []), .d (.int .i64 ra), .d (.int .i64 9)], kx, SV.le_tup ⟨SV.le_nilS, lr, lr, trivial⟩, ⟨rfl, rfl⟩, rr, trivial⟩
 · rename_i hb0 hb1
   have q : decide (200000 < text.length) = false := by simp; omega
   have q2 : decide (formE rl = 0) = false := by simp [hb]
   simp only [q, q2, hb1, cond_false, cond_true]
   refine .weak _ ?_
   conv => whnf
   exact ⟨.tup [.d (seqD 4 paF pa0 []), .d (.int .i64 0), .d (.int .i64 (formE rl))], kx, SV.le_tup ⟨SV.le_nilS, lr, lr, trivial⟩, ⟨rfl, rfl⟩, rr, trivial⟩
 · rename_i hb0 hb1
   have q : decide (200000 < text.length) = false := by simp; omega
   have q2 : decide (formE rl = 0) = true := by simp [hb]
   simp only [q, q2, hb1, cond_false, cond_true]
   refine .ret _ ?_
   conv => whnf
   refine ⟨kx, ⟨congrArg SV.tup ?_, rfl⟩, rr, trivial⟩
   repeat' (refine cons_eq ?_ ?_)
   all_goals (conv => lhs; whnf)
   all_goals try (with_reducible rfl)
   all_goals rfl
theorem dec_len : ∀ (k u : Nat), u < 10 ^ (k + 1) → (Lib.decDigits u).length ≤ k + 1 := by
 intro k
 induction k with
 | zero =>
   intro u h
   rw [Lib.decDigits, dif_pos (by omega)]; simp
 | succ k ih =>
   intro u h
   rw [Lib.decDigits]
   split
   · simp
   · have := ih (u / 10) (by rw [Nat.pow_succ] at h; omega)
     simp; omega
theorem itoa_len {n : Int} (h0 : -2^60 ≤ n) (h1 : n ≤ 2^60) : (Lib.itoa n).length ≤ 20 := by
 have key : ∀ u : Nat, u ≤ 2^60 → (Lib.decDigits u).length ≤ 19 := fun u hu => dec_len 18 u (by omega)
 unfold Lib.itoa
 split
 · have := key n.natAbs (by omega)
   simp; omega
 · have := key n.toNat (by omega)
   omega
def lnOk (ps : List Part) : Prop := ps.length ≤ 8 ∧ ∀ p ∈ ps, (partS p).length ≤ 2^10
theorem join_len : ∀ (l : List (List UInt8)) (sep : List UInt8) (N : Nat), (∀ x ∈ l, x.length ≤ N) → (Lib.join l sep).length ≤ l.length * (N + sep.length) := by
 intro l sep N h
 cases l with
 | nil => simp [Lib.join_nil]
 | cons x r =>
   rw [Lib.join_cons, List.length_append]
   have h1 := h x List.mem_cons_self
   have key : ∀ r : List (List UInt8), (∀ z ∈ r, z.length ≤ N) → (Lib.joinTail sep r).length ≤ r.length * (N + sep.length) := by
    intro r
    induction r with
    | nil => intro _; simp [Lib.joinTail]
    | cons y r ih =>
      intro hr
      have h3 := hr y List.mem_cons_self
      have h4 := ih (fun z hz => hr z (List.mem_cons_of_mem _ hz))
      unfold Lib.joinTail at h4 ⊢
      simp only [List.map_cons, List.flatten_cons, List.length_append, List.length_cons] at h4 ⊢
      rw [Nat.add_mul, Nat.one_mul]; omega
   have h2 := key r (fun z hz => h z (List.mem_cons_of_mem _ hz))
   simp only [List.length_cons]
   rw [Nat.add_mul, Nat.one_mul]; omega
theorem lnOk_len {ps : List Part} (h : lnOk ps) : (Lib.join (ps.map partS) [32]).length ≤ 2^14 := by
 have := join_len (ps.map partS) [32] (2^10) (fun x hx => by
  obtain ⟨p, hp, rfl⟩ := List.mem_map.1 hx
  exact h.2 p hp)
 have h8 := h.1
 simp only [List.length_map, List.length_singleton] at this
 have h3 : ps.length * (2 ^ 10 + 1) ≤ 8 * (2^10 + 1) := Nat.mul_le_mul_right _ h8
 omega
def lnB (ps : List Part) : List UInt8 := Lib.join (ps.map partS) [32] ++ [10]
def txF {α : Type} (pf : α → List Part) (l : List α) : List UInt8 := (l.map fun p => lnB (pf p)).flatten
theorem txF_len {α : Type} {pf : α → List Part} : ∀ {l : List α}, (∀ p ∈ l, lnOk (pf p)) → (txF pf l).length ≤ l.length * 2^15 := by
 intro l
 induction l with
 | nil => intro _; simp [txF]
 | cons x r ih =>
   intro h
   have h1 := lnOk_len (h x List.mem_cons_self)
   have h2 := ih (fun p hp => h p (List.mem_cons_of_mem _ hp))
   simp only [txF, List.map_cons, List.flatten_cons, List.length_append, List.length_cons, List.length_nil, lnB] at h2 ⊢
   rw [Nat.add_mul, Nat.one_mul]; omega
theorem txF_snoc {α : Type} {pf : α → List Part} {l : List α} {d : α} {i : Nat} (hi : i < l.length) : txF pf (l.take (i + 1)) = txF pf (l.take i) ++ lnB (pf (l.getD i d)) := by
 have : l.take (i + 1) = l.take i ++ [l.getD i d] := by rw [List.take_add_one]; simp [List.getD_eq_getElem?_getD, hi]
 rw [this]; simp [txF]
def pasP (p : Pas) : List Part := [.inl p.tm, .inr p.gate, .inr p.plate, .inl p.cents]
def pas1 (p : Pas) : Prop := (p.gate.length ≤ 2^10 ∧ p.plate.length ≤ 2^10) ∧ (-2^60 ≤ p.tm ∧ p.tm ≤ 2^60) ∧ -2^60 ≤ p.cents ∧ p.cents ≤ 2^60
theorem pas1_ln {p : Pas} (h : pas1 p) : lnOk (pasP p) := by
 obtain ⟨⟨h1, h2⟩, ⟨h3, h4⟩, h5, h6⟩ := h
 refine ⟨by simp [pasP], fun q hq => ?_⟩
 simp only [pasP, List.mem_cons, List.not_mem_nil, or_false] at hq
 have e1 := itoa_len h3 h4
 have e2 := itoa_len h5 h6
 rcases hq with rfl | rfl | rfl | rfl <;> simp only [partS] <;> omega
theorem pas1_ok {p : Pas} (h : pas1 p) : ∀ q ∈ pasP p, partOk q := by
 obtain ⟨_, ⟨h3, h4⟩, h5, h6⟩ := h
 intro q hq
 simp only [pasP, List.mem_cons, List.not_mem_nil, or_false] at hq
 rcases hq with rfl | rfl | rfl | rfl <;> simp only [partOk] <;> first | trivial | omega
theorem pas1_0 : pas1 pa0 := by simp [pas1, pa0]
theorem z20 (l : List Pas) (hk : pOk l) (hl : l.length ≤ 2^15 ∧ ∀ p ∈ l, pas1 p) : FSpec Tryz.prog 20 [.d (seqD 4 paF pa0 l)] kx (fun x r => x = .tup [.d (.str (if formE l = 0 then txF pasP l else [])), .d (.int .i64 (formE l))] ∧ r = kx) := by
 have hq : ∀ i, pas1 (l.getD i pa0) := fun i => by
  rcases Nat.lt_or_ge i l.length with q | q
  · exact hl.2 _ (getD_mem q)
  · rw [List.getD_eq_getElem?_getD, List.getElem?_eq_none q]; exact pas1_0
 have hJ := fun i => lnOk_len (pas1_ln (hq i))
 have hC := fun i => zWJoin (pasP (l.getD i pa0)) (by simp [pasP]) (pas1_ok (hq i)) (by have := hJ i; omega)
 have hT' := fun i => txF_len (pf := pasP) (l := l.take i) (fun p hp => pas1_ln (hl.2 p (List.mem_of_mem_take hp)))
 have hlen := hl.1
 refine spec_of hT (C := []) Tryz.func20 rfl Tryz.call20 rfl rfl rfl ?_
 conv => whnf
 repeat' (first | (refine CallX.exact (s152 l hk) rfl rfl ?_; rotate_right; conv => whnf) | (refine br_intro ?_ ?_ <;> intro hb <;> (try simp only [brs] at hb) <;> conv => whnf) | omega | (refine And.intro ?_ ?_; ((try dsimp only); first | omega | (refine szA rfl ?_; omega) | (refine szB rfl ?_; omega) | (unfold inI64; omega) | exact rfl | (simp only [List.toList_toArray, List.length_cons, List.length_nil]; omega) | (simp only [lns] at *; omega) | decide | (unfold inI64; decide)); conv => whnf) | decide | assumption)
 · refine .ret _ ?_
   conv => whnf
   refine ⟨kx, ⟨congrArg SV.tup ?_, rfl⟩, rr, trivial⟩
   repeat' (refine cons_eq ?_ ?_)
   all_goals (conv => lhs; whnf)
   all_goals try (with_reducible rfl)
   · rw [if_neg hb]
 have h0 := hb
 rw [h0, if_pos rfl]
 rcases Nat.eq_zero_or_pos l.length with h00 | h00
 · refine LoopX.unroll hT (C := []) (fun _ _ h => h) (fun _ h => h) ?_
   conv => whnf
   repeat' (first | (refine CallX.of zStrN [(1000001, 5)] rfl ⟨lr, trivial⟩ ⟨rr, trivial⟩ rfl rfl ?_; rintro x rout ⟨rfl, rfl⟩; refine ⟨rfl, ?_⟩; conv => whnf) | (refine br_intro ?_ ?_ <;> intro hb <;> (try simp only [brs] at hb) <;> conv => whnf) | omega | (refine And.intro ?_ ?_; ((try dsimp only); first | omega | (refine szA rfl ?_; omega) | (refine szB rfl ?_; omega) | (unfold inI64; omega) | exact rfl | (simp only [List.toList_toArray, List.length_cons, List.length_nil]; omega) | (simp only [lns] at *; omega) | decide | (unfold inI64; decide)); conv => whnf) | decide | assumption)
   have : l = [] := List.eq_nil_of_length_eq_zero h00
   subst this
   refine .ret _ ?_
   conv => whnf
   refine ⟨kx, ⟨congrArg SV.tup ?_, rfl⟩, rr, trivial⟩
   repeat' (refine cons_eq ?_ ?_)
   all_goals (conv => lhs; whnf)
   all_goals try (with_reducible rfl)
   all_goals rfl
 have hJ0 := hJ 0
 refine LoopX.unroll hT (C := []) (fun _ _ h => h) (fun _ h => h) ?_
 conv => whnf
 repeat' (first | (refine CallX.look (hC 0) [(1000009, 1000009)] rfl ⟨SV.le_lit rfl rfl, trivial⟩ ⟨⟨_, rfl, rfl⟩, trivial⟩ rfl rfl rfl ?_; conv => whnf) | (refine CallX.of (zWrN (lnB (pasP (l.getD 0 pa0))) (by unfold lnB; have := hJ 0; simp only [List.length_append, List.length_singleton]; omega)) [(1000001, 5), (14, 40)] rfl ⟨lr, lr, trivial⟩ ⟨rr, trivial⟩ rfl rfl ?_; rintro x rout ⟨rfl, rfl⟩; refine ⟨rfl, ?_⟩; conv => whnf) | (refine br_intro ?_ ?_ <;> intro hb <;> (try simp only [brs] at hb) <;> conv => whnf) | omega | (refine And.intro ?_ ?_; ((try dsimp only); first | omega | (refine szA rfl ?_; omega) | (refine szB rfl ?_; omega) | (unfold inI64; omega) | exact rfl | (simp only [List.toList_toArray, List.length_cons, List.length_nil]; omega) | (simp only [lns] at *; omega) | decide | (unfold inI64; decide)); conv => whnf) | decide | assumption)
 have he1 : lnB (pasP (l.getD 0 pa0)) = txF pasP (l.take 1) := by rw [txF_snoc (d := pa0) h00]; simp [txF]
 refine LoopX.rule hT (C := []) (ι := Nat) (fun i => i ≤ l.length) (fun i => mkSt [(5, .ptr 5 0), (13, .d (seqD 4 paF pa0 l)), (14, .d (.int .i64 l.length)), (15, .d (.int .i64 i))] [(1000009, KX), (5, .cells 98 [.ptr 5 0, .buf 40]), (40, bytB (txF pasP (l.take i)))]) (fun i => l.length - i) 1 h00 ?_ ?_
 · rw [← he1]
   exact (by (refine Entails.mk' [(1000009, 1000009), (5, 5), (40, 40)] rfl rfl ?_ ?_ <;> repeat' (first | exact True.intro | exact lr | exact rr | exact SV.le_int (by omega) | exact SV.le_any _ | refine And.intro ?_ ?_)); done)
 intro i hi
 have hJi := hJ i
 have hTi := hT' i
 have hTl : (l.take i).length = i := by simp; omega
 rw [hTl] at hTi
 conv => whnf
 repeat' (first | (refine CallX.look (hC i) [(1000009, 1000009)] rfl ⟨SV.le_lit rfl rfl, trivial⟩ ⟨⟨_, rfl, rfl⟩, trivial⟩ rfl rfl rfl ?_; conv => whnf) | (refine CallX.of (zWrB (txF pasP (l.take i)) (lnB (pasP (l.getD i pa0))) (by unfold lnB; simp only [List.length_append, List.length_singleton]; omega)) [(1000001, 5), (1000002, 40), (14, 41)] rfl ⟨lr, lr, trivial⟩ ⟨rr, rr, trivial⟩ rfl rfl ?_; rintro x rout ⟨rfl, rfl⟩; refine ⟨rfl, ?_⟩; conv => whnf) | (refine CallX.of (zStrB (txF pasP (l.take i)) (.ptr 1000001 0)) [(1000001, 5), (1000002, 40)] rfl ⟨lr, trivial⟩ ⟨rr, rr, trivial⟩ rfl rfl ?_; rintro x rout ⟨rfl, rfl⟩; refine ⟨rfl, ?_⟩; conv => whnf) | (refine br_intro ?_ ?_ <;> intro hb <;> (try simp only [brs] at hb) <;> conv => whnf) | omega | (refine And.intro ?_ ?_; ((try dsimp only); first | omega | (refine szA rfl ?_; omega) | (refine szB rfl ?_; omega) | (unfold inI64; omega) | exact rfl | (simp only [List.toList_toArray, List.length_cons, List.length_nil]; omega) | (simp only [lns] at *; omega) | decide | (unfold inI64; decide)); conv => whnf) | decide | assumption)
 · have hlt : i < l.length := by omega
   refine ⟨i + 1, by omega, by omega, ?_⟩
   rw [txF_snoc (d := pa0) hlt]
   exact (by (refine Entails.mk' [(1000009, 1000009), (5, 5), (40, 41)] rfl rfl ?_ ?_ <;> repeat' (first | exact True.intro | exact lr | exact rr | exact SV.le_int (by omega) | exact SV.le_any _ | refine And.intro ?_ ?_)); done)
 · have : i = l.length := by omega
   subst this
   refine .ret _ ?_
   conv => whnf
   refine ⟨kx, ⟨congrArg SV.tup ?_, rfl⟩, rr, trivial⟩
   repeat' (refine cons_eq ?_ ?_)
   all_goals (conv => lhs; whnf)
   all_goals try (with_reducible rfl)
   · rw [List.take_length]
def oXTpD26_6 : List (Nat × List Nat) := [(0, []), (1, [0]), (2, []), (3, []), (4, [0, 1, 2, 3]), (5, [0, 1, 2, 3, 4]), (6, [0, 1, 2, 3]), (7, [0, 1, 2, 3]), (8, [])]
def oXTpD22_5 : List (Nat × List Nat) := [(0, []), (1, [0]), (2, [0]), (4, [0, 1, 2]), (5, [0, 1, 2]), (6, [0, 1, 2, 4, 5]), (7, [0, 1, 2, 4, 5]), (8, [0, 1, 2, 4, 5, 6, 7]), (9, [0, 1, 2, 4, 5, 6, 7]), (3, [0, 4, 5, 6, 7, 8, 9]), (10, [0, 4, 5, 6, 7]), (11, [0]), (12, [0]), (13, [0]), (14, []), (15, [])]
def oXTpD74_7 : List (Nat × List Nat) := [(0, []), (1, [0]), (2, []), (3, [0, 1, 2]), (4, [0, 1, 2]), (5, [0, 1, 2]), (6, []), (7, [0, 1, 2, 3, 4, 5, 6]), (8, [0, 1, 2, 3, 4, 5, 6, 7]), (9, [0, 1, 2, 3, 4, 5, 6, 7]), (10, [0, 1, 2, 3, 4, 5, 6]), (11, []), (12, [])]
def oXTpD74_9 : List (Nat × List Nat) := [(0, []), (1, [0]), (2, []), (3, [0, 1, 2]), (4, [0, 1, 2]), (5, [0, 1, 2]), (6, []), (7, [0, 1, 2, 3, 4, 5, 6]), (8, [0, 1, 2, 3, 4, 5, 6, 7]), (9, [0, 1, 2, 3, 4, 5, 6]), (10, []), (11, [])]
def oXTpD74_10 : List (Nat × List Nat) := [(0, []), (1, [0]), (2, []), (3, [0, 1, 2]), (4, [0, 1, 2, 3]), (5, [0, 1, 2, 3]), (6, [0, 1, 2]), (7, []), (8, [])]
theorem pas_eq {a b : Pas} : a = b ↔ ((a.tm = b.tm ∧ a.gate = b.gate) ∧ a.plate = b.plate) ∧ a.cents = b.cents := by cases a; cases b; simp [and_assoc]
instance : DecidableEq Pas := fun _ _ => decidable_of_iff _ pas_eq.symm
theorem z26 (l m : List Pas) (hl : l.length ≤ 2^40) : FSpec Tryz.prog 26 [.d (pass l), .d (pass m)] [] (fun x r => x = .d (.bool (decide (l = m))) ∧ r = []) := by
 refine spec_of hT (C := []) Tryz.func26 rfl Tryz.call26 rfl rfl rfl ?_
 conv => whnf
 repeat' (first | (refine br_intro ?_ ?_ <;> intro hb <;> (try simp only [brs] at hb) <;> conv => whnf) | (refine RegX.rule (id := 6) hT rfl [] oXTpD26_6 (by decide +kernel) ?_; conv => whnf) | omega | (refine And.intro ?_ ?_; ((try dsimp only); first | omega | (refine szA rfl ?_; omega) | (refine szB rfl ?_; omega) | (unfold inI64; omega) | exact rfl | (simp only [List.toList_toArray, List.length_cons, List.length_nil]; omega) | (simp only [lns] at *; omega) | decide | (unfold inI64; decide)); conv => whnf) | decide | assumption)
 · refine .ret _ ?_
   conv => whnf
   refine ⟨[], ⟨?_, rfl⟩, trivial⟩
   conv => lhs; whnf
   have : ¬ l = m := fun q => by subst q; simp at hb
   simp [this]
 have hlen : l.length = m.length := by
  omega
 refine LoopX.rule hT (C := []) (ι := Nat) (fun i => i ≤ l.length ∧ ∀ j, j < i → l.getD j pa0 = m.getD j pa0) (fun i => mkSt [(0, .d (pass l)), (1, .d (pass m)), (12, .d (.int .i64 l.length)), (13, .d (.int .i64 i))] []) (fun i => l.length - i) 0 ⟨by simp, fun j hj => absurd hj (Nat.not_lt_zero j)⟩ (by (refine Entails.mk' [] rfl rfl ?_ ?_ <;> repeat' (first | exact True.intro | exact lr | exact rr | exact SV.le_int (by omega) | exact SV.le_any _ | refine And.intro ?_ ?_)); done) ?_
 rintro i ⟨p1, p2⟩
 have e1 : (i : Int).toNat = i := Int.toNat_natCast i
 conv => whnf
 repeat' (first | (refine br_intro ?_ ?_ <;> intro hb <;> (try simp only [brs] at hb) <;> conv => whnf) | (refine RegX.rule (id := 6) hT rfl [] oXTpD26_6 (by decide +kernel) ?_; conv => whnf) | omega | (refine And.intro ?_ ?_; ((try dsimp only); first | omega | (refine szA rfl ?_; omega) | (refine szB rfl ?_; omega) | (unfold inI64; omega) | exact rfl | (simp only [List.toList_toArray, List.length_cons, List.length_nil]; omega) | (simp only [lns] at *; omega) | decide | (unfold inI64; decide)); conv => whnf) | decide | assumption)
 · refine .ret _ ?_
   conv => whnf
   refine ⟨[], ⟨?_, rfl⟩, trivial⟩
   conv => lhs; whnf
   have : ¬ l = m := fun q => by subst q; simp at hb
   simp [this]
 · exact ⟨i + 1, ⟨by omega, all_step p2 (by rw [pas_eq]; simpa [and_assoc] using hb)⟩, by omega, (by (refine Entails.mk' [] rfl rfl ?_ ?_ <;> repeat' (first | exact True.intro | exact lr | exact rr | exact SV.le_int (by omega) | exact SV.le_any _ | refine And.intro ?_ ?_)); done)⟩
 · refine .ret _ ?_
   conv => whnf
   refine ⟨[], ⟨?_, rfl⟩, trivial⟩
   conv => lhs; whnf
   have : i = l.length := by omega
   subst this
   simp [eq_of_getD pa0 hlen p2]
theorem z22 (l : List Pas) (hl : l.length ≤ 2^15 ∧ ∀ p ∈ l, pas1 p) : FSpec Tryz.prog 22 [.d (seqD 4 paF pa0 l)] kx (fun x r => x = .d (.str (txF pasP l)) ∧ r = kx) := by
 have hq : ∀ i, pas1 (l.getD i pa0) := fun i => by
  rcases Nat.lt_or_ge i l.length with q | q
  · exact hl.2 _ (getD_mem q)
  · rw [List.getD_eq_getElem?_getD, List.getElem?_eq_none q]; exact pas1_0
 have hJ := fun i => lnOk_len (pas1_ln (hq i))
 have hT' := fun i => txF_len (pf := pasP) (l := l.take i) (fun p hp => pas1_ln (hl.2 p (List.mem_of_mem_take hp)))
 have hlen := hl.1
 refine spec_of hT (C := []) Tryz.func22 rfl Tryz.call22 rfl rfl rfl ?_
 conv => whnf
 refine LoopX.rule hT (C := []) (ι := Nat) (fun i => i ≤ l.length) (fun i => mkSt [(3, .d (.str (txF pasP (l.take i)))), (6, .d (seqD 4 paF pa0 l)), (7, .d (.int .i64 l.length)), (8, .d (.int .i64 i))] [(1000009, KX)]) (fun i => l.length - i) 0 (by simp) (by (refine Entails.mk' [(1000009, 1000009)] rfl rfl ?_ ?_ <;> repeat' (first | exact True.intro | exact lr | exact rr | exact SV.le_int (by omega) | exact SV.le_any _ | refine And.intro ?_ ?_)); done) ?_
 intro i hi
 have hJi := hJ i
 have hTi := hT' i
 have hTl : (l.take i).length = i := by simp; omega
 rw [hTl] at hTi
 obtain ⟨⟨b1, b2⟩, ⟨b3, b4⟩, b5, b6⟩ := hq i
 have hL := itoa_len b3 b4
 have hL2 := itoa_len b5 b6
 have c1 := zItoa (l.getD i pa0).tm (by omega) (by omega)
 have c2 := zItoa (l.getD i pa0).cents (by omega) (by omega)
 have c3 := zJoin ((pasP (l.getD i pa0)).map partS) [32] (by omega) (by simp [pasP])
 conv => whnf
 repeat' (first | (refine CallX.kn c1 rfl rfl rfl rfl ?_; conv => whnf) | (refine CallX.kn c2 rfl rfl rfl rfl ?_; conv => whnf) | (refine CallX.pure c3 ⟨SV.le_lit rfl rfl, lr, trivial⟩ rfl ?_; conv => whnf) | (refine br_intro ?_ ?_ <;> intro hb <;> (try simp only [brs] at hb) <;> conv => whnf) | (refine RegX.rule (id := 5) hT rfl [] oXTpD22_5 (by decide +kernel) ?_; conv => whnf) | omega | (refine And.intro ?_ ?_; ((try dsimp only); first | omega | (refine szA rfl ?_; omega) | (refine szB rfl ?_; omega) | (unfold inI64; omega) | exact rfl | (simp only [List.toList_toArray, List.length_cons, List.length_nil]; omega) | (simp only [lns] at *; omega) | decide | (unfold inI64; decide)); conv => whnf) | decide | assumption)
 · have hlt : i < l.length := by omega
   refine ⟨i + 1, by omega, by omega, ?_⟩
   rw [txF_snoc (d := pa0) hlt]
   exact (by (refine Entails.mk' [(1000009, 1000009)] rfl rfl ?_ ?_ <;> repeat' (first | exact True.intro | exact lr | exact rr | exact SV.le_int (by omega) | exact SV.le_any _ | refine And.intro ?_ ?_)); done)
 · have : i = l.length := by omega
   subst this
   refine .ret _ ?_
   conv => whnf
   refine ⟨kx, ⟨?_, rfl⟩, rr, trivial⟩
   conv => lhs; whnf
   rw [List.take_length]
theorem enc_len (n : Int) : (Utf8.encode n).data.toList.length ≤ 4 := by
 unfold Utf8.encode
 dsimp only
 generalize (if Utf8.valid n = true then n.toNat else Utf8.runeError) = c
 repeat' split
 all_goals simp
theorem le_enc {A : Nat} {n : Int} (h : A ≤ 2^40) : A + (Utf8.encode n).data.toList.length ≤ 9223372036854775807 := by have := enc_len n; omega
theorem le_enc2 {A : List UInt8} {B : Nat} {n : Int} (h : A.length ≤ 2^40) (k : B ≤ 2^40) : (A ++ (Utf8.encode n).data.toList).length + B ≤ 9223372036854775807 := by have := enc_len n; rw [List.length_append]; omega
theorem len_enc {A : List UInt8} {n : Int} : (A ++ (Utf8.encode n).data.toList).length ≤ A.length + 4 := by have := enc_len n; rw [List.length_append]; omega
theorem z74 (n : Nat) (L : Nat → Int) (hL : Rok n L) (a : Int) (h0 : 0 ≤ a) (ha : a ≤ 2^39) (t wth : List UInt8) (ht : t.length ≤ 2^30) (hw : wth.length ≤ 2^20) :
 FSpec Tryz.prog 74 [.ptr 1000000 0, .d (.str t), .d (.str wth)] [(1000000, strm n L a)] (fun y r => (∃ u, u.length ≤ t.length + wth.length + 4 ∧ y = .d (.str u)) ∧ Moved n L a 4 r) := by
 have nn : ∀ l : List UInt8, ¬ 1 ≤ l.length → l = [] := fun l h => List.eq_nil_of_length_eq_zero (by omega)
 by_cases e1 : 1 ≤ t.length
 · by_cases e2 : 1 ≤ wth.length
   · refine spec_of hT (C := []) Tryz.func74 rfl Tryz.call74 rfl rfl rfl ?_
     conv => whnf
     repeat' (first | (refine CallX.of (s86 n L hL _ ?_ ?_ _ ?_) [(1000000, 1000000)] rfl ⟨lr, lr, trivial⟩ ⟨rr, trivial⟩ rfl rfl ?_; rotate_right; rintro x rout ⟨⟨j, hj1, hj2, hj3, rfl⟩, ⟨c, c1, c2, rfl⟩⟩; refine ⟨rfl, ?_⟩; conv => whnf) | (refine And.intro (le_enc (by simp only [List.length_take, List.length_drop]; omega)) ?_; conv => whnf) | (refine And.intro (le_enc2 (by simp only [List.length_take, List.length_drop]; omega) (by simp only [List.length_take, List.length_drop]; omega)) ?_; conv => whnf) | (refine And.intro (by simp only [List.length_take, List.length_drop]; omega) ?_; conv => whnf) | (refine br_intro ?_ ?_ <;> intro hb <;> (try simp only [brs] at hb) <;> conv => whnf) | (refine RegX.rule (id := 7) hT rfl [] oXTpD74_7 (by decide +kernel) ?_; conv => whnf) | (refine RegX.rule (id := 9) hT rfl [] oXTpD74_9 (by decide +kernel) ?_; conv => whnf) | (refine RegX.rule (id := 10) hT rfl [] oXTpD74_10 (by decide +kernel) ?_; conv => whnf) | omega | (refine And.intro ?_ ?_; ((try dsimp only); first | omega | (refine szA rfl ?_; omega) | (refine szB rfl ?_; omega) | (unfold inI64; omega) | exact rfl | (simp only [List.toList_toArray, List.length_cons, List.length_nil]; omega) | (simp only [lns] at *; omega) | decide | (unfold inI64; decide)); conv => whnf) | decide | assumption)
     · exfalso; rw [hb] at e1; simp at e1
     · exfalso; rw [hb] at e2; simp at e2
     all_goals (refine .ret _ ?_)
     all_goals (conv => whnf)
     · refine ⟨[(1000000, strm n L _)], ⟨⟨_, ?_, rfl⟩, ⟨_, ?_, ?_, rfl⟩⟩, rr, trivial⟩
       · rw [List.length_append]
         refine Nat.le_trans (Nat.add_le_add_right len_enc _) ?_
         simp only [List.length_take, List.length_drop]; omega
       all_goals omega
     · refine ⟨[(1000000, strm n L _)], ⟨⟨_, ?_, rfl⟩, ⟨_, ?_, ?_, rfl⟩⟩, rr, trivial⟩
       · rw [List.length_append]
         refine Nat.le_trans (Nat.add_le_add_right len_enc _) ?_
         simp only [List.length_take, List.length_drop]; omega
       all_goals omega
     · refine ⟨[(1000000, strm n L _)], ⟨⟨_, ?_, rfl⟩, ⟨_, ?_, ?_, rfl⟩⟩, rr, trivial⟩
       · rw [List.length_append]
         simp only [List.length_take, List.length_drop]; omega
       all_goals omega
   · obtain rfl := nn _ e2
     refine spec_of hT (C := []) Tryz.func74 rfl Tryz.call74 rfl rfl rfl ?_
     conv => whnf
     repeat' (first | (refine br_intro ?_ ?_ <;> intro hb <;> (try simp only [brs] at hb) <;> conv => whnf) | (refine RegX.rule (id := 7) hT rfl [] oXTpD74_7 (by decide +kernel) ?_; conv => whnf) | (refine RegX.rule (id := 9) hT rfl [] oXTpD74_9 (by decide +kernel) ?_; conv => whnf) | (refine RegX.rule (id := 10) hT rfl [] oXTpD74_10 (by decide +kernel) ?_; conv => whnf) | omega | (refine And.intro ?_ ?_; ((try dsimp only); first | omega | (refine szA rfl ?_; omega) | (refine szB rfl ?_; omega) | (unfold inI64; omega) | exact rfl | (simp only [List.toList_toArray, List.length_cons, List.length_nil]; omega) | (simp only [lns] at *; omega) | decide | (unfold inI64; decide)); conv => whnf) | decide | assumption)
     all_goals (refine .ret _ ?_)
     all_goals (conv => whnf)
     all_goals exact ⟨[(1000000, strm n L a)], ⟨⟨_, by simp, rfl⟩, ⟨a, by omega, by omega, rfl⟩⟩, rr, trivial⟩
 · obtain rfl := nn _ e1
   refine spec_of hT (C := []) Tryz.func74 rfl Tryz.call74 rfl rfl rfl ?_
   conv => whnf
   repeat' (first | (refine br_intro ?_ ?_ <;> intro hb <;> (try simp only [brs] at hb) <;> conv => whnf) | (refine RegX.rule (id := 7) hT rfl [] oXTpD74_7 (by decide +kernel) ?_; conv => whnf) | (refine RegX.rule (id := 9) hT rfl [] oXTpD74_9 (by decide +kernel) ?_; conv => whnf) | (refine RegX.rule (id := 10) hT rfl [] oXTpD74_10 (by decide +kernel) ?_; conv => whnf) | omega | (refine And.intro ?_ ?_; ((try dsimp only); first | omega | (refine szA rfl ?_; omega) | (refine szB rfl ?_; omega) | (unfold inI64; omega) | exact rfl | (simp only [List.toList_toArray, List.length_cons, List.length_nil]; omega) | (simp only [lns] at *; omega) | decide | (unfold inI64; decide)); conv => whnf) | decide | assumption)
   all_goals (refine .ret _ ?_)
   all_goals (conv => whnf)
   all_goals exact ⟨[(1000000, strm n L a)], ⟨⟨wth, by simp, rfl⟩, ⟨a, by omega, by omega, rfl⟩⟩, rr, trivial⟩
theorem s130 (D C F : Int) (l : List Pas) (hl : l.length ≤ 1000) (hp : ∀ p ∈ l, 0 ≤ p.tm ∧ p.tm ≤ 5761439) :
 FSpec Tryz.prog 169 [.agg [.d (.int .i64 D), .d (.int .i64 C), .d (.int .i64 F)], .d (pass l)] [] (fun x r => x = .d (seqD 1 bF false (fillA false (dblB D l) l.length l.length)) ∧ r = []) := by
 refine spec_of hT (C := []) Tryz.func169 rfl Tryz.call169 rfl rfl rfl ?_
 conv => whnf
 repeat' (first | (refine br_intro ?_ ?_ <;> intro hb <;> (try simp only [brs] at hb) <;> conv => whnf) | omega | (refine And.intro ?_ ?_; ((try dsimp only); first | omega | (refine szA rfl ?_; omega) | (refine szB rfl ?_; omega) | (unfold inI64; omega) | exact rfl | (simp only [lns] at *; omega) | decide | (unfold inI64; decide)); conv => whnf) | decide | assumption)
 refine LoopX.rule hT (C := []) (ι := Nat) (fun i => i ≤ l.length) (fun i => mkSt [(2, .ptr 2 0), (5, .mp 5), (6, .buf 6), (16, .d (pass l)), (17, .d (.int .i64 l.length)), (18, .d (.int .i64 i))] [(2, .cells 135 [.d (.int .i64 D), .d (.int .i64 C), .d (.int .i64 F)]), (5, seenR (dblM D l i)), (6, seqB 4 1 bF false (fillA false (dblB D l) l.length i))]) (fun i => l.length - i) 0 (by omega) ?_ ?_
 · refine Entails.mk' [(2, 2), (5, 12), (6, 15)] rfl rfl ⟨lr, lr, lr, lr, lr, lr, trivial⟩ ⟨rr, Res.le_map (fun key hk => ?_), Res.le_buf (by rw [fillA_length]; rfl) (fun j hj => ?_), trivial⟩
   · obtain ⟨a, b, rfl⟩ := wk_ss hk
     exact ⟨rfl, rfl⟩
   · have hj : j < l.length := hj
     rw [rowF_lt (by rw [fillA_length]; exact hj)]
     simp [fillA, bF]
     rfl
 rintro i p1
 have e1 : (i : Int).toNat = i := Int.toNat_natCast i
 have hpi : (i : Int) < l.length → 0 ≤ (l.getD (i : Int).toNat pa0).tm ∧ (l.getD (i : Int).toNat pa0).tm ≤ 5761439 := fun hi => hp _ (getD_mem (by omega))
 have hlen : (fillA false (dblB D l) l.length i).length = l.length := fillA_length
 have hm : ∀ q, 0 ≤ (dblM D l i q).getD 0 ∧ (dblM D l i q).getD 0 ≤ 5761439 := fun q => by
  cases hq : dblM D l i q with
  | none => simp
  | some t => simpa using dblM_bd hp i p1 q t hq
 have hm0 := hm ((l.getD (i : Int).toNat pa0).plate, (l.getD (i : Int).toNat pa0).gate)
 conv => whnf
 repeat' (first | (refine And.intro (rfl : zrow _ = some [DV.int .i64 0]) ?_; conv => whnf) | (simp only [Nat.beq_refl, cond_true]; conv => whnf) | (refine br_intro ?_ ?_ <;> intro hb <;> (try simp only [brs] at hb) <;> conv => whnf) | omega | (refine And.intro ?_ ?_; ((try dsimp only); first | omega | (refine szA rfl ?_; omega) | (refine szB rfl ?_; omega) | (unfold inI64; omega) | exact rfl | (simp only [lns] at *; omega) | decide | (unfold inI64; decide)); conv => whnf) | decide | assumption)
 · rename_i hb1
   have hB : dblB D l i = false := by rw [dblB_eq, decide_eq_false (by omega), Bool.and_false]
   have hM : ∀ a b, dblM D l (i + 1) (a, b) = if a = (l.getD i pa0).plate ∧ b = (l.getD i pa0).gate then some (l.getD i pa0).tm else dblM D l i (a, b) := fun a b => by
    rw [dblM, if_neg (by show ¬ dblB D l i = true; rw [hB]; simp)]
    simp [Prod.ext_iff]
   refine ⟨i + 1, by omega, by omega, Entails.mk' [(2, 2), (5, 5), (6, 6)] rfl rfl ⟨lr, lr, lr, lr, lr, lr, trivial⟩ ⟨rr, Res.le_map (fun key hk => ?_), ?_, trivial⟩⟩
   · obtain ⟨a, b, rfl⟩ := wk_ss hk
     rw [e1]
     simp only [keyEq, keyEq1, Bool.and_true, mHas, mVal, hM]
     by_cases hab : a = (l.getD i pa0).plate ∧ b = (l.getD i pa0).gate
     · rw [if_pos hab, hab.1, hab.2]; simp
     · rw [if_neg hab]
       have : (a == (l.getD i pa0).plate && b == (l.getD i pa0).gate) = false := by
        cases hq : (a == (l.getD i pa0).plate && b == (l.getD i pa0).gate) with
        | false => rfl
        | true => simp at hq; exact absurd hq hab
       rw [this]; simp
   · rw [← fillA_set' (x := false) hB.symm]
     first
      | exact Res.le_putF (fun y _ => rfl)
      | (refine Res.le_putF (x := false) (fun y _ => ?_)
         show [DV.bool _] = [DV.bool _]
         rw [e1]; simpa using hb)
 · rename_i hb1
   have hB : dblB D l i = true := by rw [dblB_eq, decide_eq_true hb, Bool.and_true]; exact hb1
   refine ⟨i + 1, by omega, by omega, Entails.mk' [(2, 2), (5, 5), (6, 6)] rfl rfl ⟨lr, lr, lr, lr, lr, lr, trivial⟩ ⟨rr, ?_, ?_, trivial⟩⟩
   · have : dblM D l (i + 1) = dblM D l i := by rw [dblM]; exact if_pos hB
     rw [this]; exact rr
   · rw [← fillA_set' (x := decide ((l.getD (i : Int).toNat pa0).tm - (dblM D l i ((l.getD (i : Int).toNat pa0).plate, (l.getD (i : Int).toNat pa0).gate)).getD 0 < D)) (by rw [hB, e1]; simpa using hb)]
     exact Res.le_putF (fun y _ => rfl)
 · have hB : dblB D l i = false := by
    rw [dblB_eq, Bool.and_eq_false_iff]; exact .inl hb
   have hM : ∀ a b, dblM D l (i + 1) (a, b) = if a = (l.getD i pa0).plate ∧ b = (l.getD i pa0).gate then some (l.getD i pa0).tm else dblM D l i (a, b) := fun a b => by
    rw [dblM, if_neg (by show ¬ dblB D l i = true; rw [hB]; simp)]
    simp [Prod.ext_iff]
   refine ⟨i + 1, by omega, by omega, Entails.mk' [(2, 2), (5, 5), (6, 6)] rfl rfl ⟨lr, lr, lr, lr, lr, lr, trivial⟩ ⟨rr, Res.le_map (fun key hk => ?_), ?_, trivial⟩⟩
   · obtain ⟨a, b, rfl⟩ := wk_ss hk
     rw [e1]
     simp only [keyEq, keyEq1, Bool.and_true, mHas, mVal, hM]
     by_cases hab : a = (l.getD i pa0).plate ∧ b = (l.getD i pa0).gate
     · rw [if_pos hab, hab.1, hab.2]; simp
     · rw [if_neg hab]
       have : (a == (l.getD i pa0).plate && b == (l.getD i pa0).gate) = false := by
        cases hq : (a == (l.getD i pa0).plate && b == (l.getD i pa0).gate) with
        | false => rfl
        | true => simp at hq; exact absurd hq hab
       rw [this]; simp
   · rw [← fillA_set' (x := false) hB.symm]
     first
      | exact Res.le_putF (fun y _ => rfl)
      | (refine Res.le_putF (x := false) (fun y _ => ?_)
         show [DV.bool _] = [DV.bool _]
         rw [e1]; simpa using hb)
 · refine .freeze _ 6 4 1 _ _ rfl ?_
   have : i = l.length := by omega
   subst this
   refine .ret _ ?_
   conv => whnf
   refine ⟨[], ⟨?_, rfl⟩, trivial⟩
   conv => lhs; whnf
theorem s65 (g : List Gate) (D C F : Int) (l : List Pas) (hg : gOk g) (hl : pOk l) :
 FSpec Tryz.prog 99 [.d (gates g), .agg [.d (.int .i64 D), .d (.int .i64 C), .d (.int .i64 F)], .d (pass l)] [] (fun x r => x = .tup [.d (if dblsE D C F g l = 0 then ints (dblIx D l l.length) else .nilsl), .d (.int .i64 (dblsE D C F g l))] ∧ r = []) := by
 refine spec_of hT (C := []) Tryz.func99 rfl Tryz.call99 rfl rfl rfl ?_
 conv => whnf
 repeat' (first | (refine CallX.exact (s66 _ _ _) rfl rfl ?_; rotate_right; conv => whnf) | (refine CallX.exact (s90 g l hg hl) rfl rfl ?_; rotate_right; conv => whnf) | (refine CallX.pure (s105 [_, _] (by simp)) ⟨SV.le_lit (by rfl) (by rfl), trivial⟩ rfl ?_; conv => whnf) | (refine br_intro ?_ ?_ <;> intro hb <;> (try simp only [brs] at hb) <;> conv => whnf) | omega | (refine And.intro ?_ ?_; ((try dsimp only); first | omega | (refine szA rfl ?_; omega) | (refine szB rfl ?_; omega) | (unfold inI64; omega) | exact rfl | (simp only [lns] at *; omega) | decide | (unfold inI64; decide)); conv => whnf) | decide | assumption)
 · have hb : ¬ dblsE D C F g l = 0 := hb
   refine .ret _ ?_
   conv => whnf
   refine ⟨[], ⟨congrArg SV.tup ?_, rfl⟩, trivial⟩
   repeat' (refine cons_eq ?_ ?_)
   all_goals (conv => lhs; whnf)
   all_goals try (with_reducible rfl)
   · rw [if_neg hb]
   · rfl
 have hb : dblsE D C F g l = 0 := hb
 rw [hb]
 have hz : chkE g l = 0 := by simp only [dblsE, firstE] at hb; grind
 obtain ⟨⟨n1, n2⟩, n3, n4⟩ := chk_zero hz
 repeat' (first | (refine CallX.exact (s130 _ _ _ l n3 n4) rfl rfl ?_; rotate_right; conv => whnf) | (refine br_intro ?_ ?_ <;> intro hb <;> (try simp only [brs] at hb) <;> conv => whnf) | omega | (refine And.intro ?_ ?_; ((try dsimp only); first | omega | (refine szA rfl ?_; omega) | (refine szB rfl ?_; omega) | (unfold inI64; omega) | exact rfl | (simp only [lns] at *; omega) | decide | (unfold inI64; decide)); conv => whnf) | decide | assumption)
 refine LoopX.rule hT (C := []) (ι := Nat) (fun i => i ≤ l.length) (fun i => mkSt [(9, .buf 9), (24, .d (seqD 1 bF false (fillA false (dblB D l) l.length l.length))), (25, .d (.int .i64 l.length)), (26, .d (.int .i64 i))] [(9, seqB 3 1 iF 0 (dblIx D l i))]) (fun i => l.length - i) 0 (by omega) ?_ ?_
 · exact (Entails.nil 9 9 3 1 (rowF iF 0 []) rfl rfl (by decide)).trans (by (refine Entails.mk' [(9, 9)] rfl rfl ?_ ?_ <;> repeat' (first | exact True.intro | exact lr | exact rr | (refine SV.le_int ?_; rw [fillA_length]) | exact SV.le_int (by omega) | exact SV.le_any _ | refine And.intro ?_ ?_)); done)
 rintro i p1
 have e1 : (i : Int).toNat = i := Int.toNat_natCast i
 have hlen : (fillA false (dblB D l) l.length l.length).length = l.length := fillA_length
 have hdl := dblIx_len (D := D) (l := l) (n := i)
 conv => whnf
 repeat' (first | (refine br_intro ?_ ?_ <;> intro hb <;> (try simp only [brs] at hb) <;> conv => whnf) | omega | (refine And.intro ?_ ?_; ((try dsimp only); first | omega | (refine szA rfl ?_; omega) | (refine szB rfl ?_; omega) | (unfold inI64; omega) | exact rfl | (simp only [lns] at *; omega) | decide | (unfold inI64; decide)); conv => whnf) | decide | assumption)
 · rw [fillA_get (by omega)] at hb
   refine ⟨i + 1, by omega, by omega, Entails.mk' [(9, 35)] rfl rfl ⟨lr, lr, lr, lr, trivial⟩ ⟨?_, trivial⟩⟩
   rw [dblIx_succ, if_pos hb]; exact Res.le_snocF (by rfl)
 · rw [fillA_get (by omega)] at hb
   refine ⟨i + 1, by omega, by omega, Entails.mk' [(9, 9)] rfl rfl ⟨lr, lr, lr, lr, trivial⟩ ⟨?_, trivial⟩⟩
   rw [dblIx_succ, if_neg (by rw [hb]; simp), List.append_nil]; exact rr
 · have : i = l.length := by omega
   subst this
   refine .freeze _ 9 3 1 _ _ rfl ?_
   refine .ret _ ?_
   conv => whnf
   refine ⟨[], ⟨congrArg SV.tup ?_, rfl⟩, trivial⟩
   repeat' (refine cons_eq ?_ ?_)
   all_goals (conv => lhs; whnf)
   all_goals try (with_reducible rfl)
   rw [if_pos rfl]
theorem s24 : FSpec Tryz.prog 27 [] [] (fun x r => x = .d (.bool true) ∧ r = []) := by
 have h := s65 tolG 5 0 0 tolP ⟨by decide, by decide⟩ ⟨by decide, by decide⟩
 rw [tol_zero, if_pos rfl, tol_ix] at h
 refine spec_of hT (C := []) Tryz.func27 rfl Tryz.call27 rfl rfl rfl ?_
 conv => whnf
 repeat' (first | (refine CallX.pure h ⟨SV.le_lit (l := tolG) rfl rfl, lr, SV.le_lit (l := tolP) rfl rfl, trivial⟩ rfl ?_; conv => whnf) | (refine CallX.pure (s37 [1] [1] (by simp) (by simp)) ⟨lr, SV.le_lit rfl rfl, trivial⟩ rfl ?_; conv => whnf) | (refine br_intro ?_ ?_ <;> intro hb <;> (try simp only [brs] at hb) <;> conv => whnf) | omega | (refine And.intro ?_ ?_; ((try dsimp only); first | omega | (refine szA rfl ?_; omega) | (refine szB rfl ?_; omega) | (unfold inI64; omega) | exact rfl | (simp only [lns] at *; omega) | decide | (unfold inI64; decide)); conv => whnf) | decide | assumption)
 all_goals
  refine .ret _ ?_
  conv => whnf
  refine ⟨[], ⟨?_, rfl⟩, trivial⟩
  conv => lhs; whnf
  simp
def MovedK (n : Nat) (L : Nat → Int) (a : Int) (c : Int) (r : List (Nat × Res)) : Prop := ∃ b, a ≤ b ∧ b ≤ a + c ∧ r = [(1000000, strm n L b), (1000009, KX)]
theorem pSh_tx {l : List Pas} {k : Nat} (h : pSh l k) (hk : k ≤ 2^15) : l.length ≤ 2^15 ∧ ∀ p ∈ l, pas1 p :=
 ⟨by have := h.1; omega, fun p hp => by
   obtain ⟨h1, h2, h3, h4, h5⟩ := h.2 p hp
   exact ⟨⟨by omega, by omega⟩, ⟨by omega, by omega⟩, by omega, by omega⟩⟩
theorem s74 (n : Nat) (L : Nat → Int) (hL : Rok n L) (a : Int) (h0 : 0 ≤ a) (ha : a ≤ 2^39) (t wth : List UInt8) (ht : t.length ≤ 2^30) (hw : wth.length ≤ 2^20) :
 FSpec Tryz.prog 74 [.ptr 1000000 0, .d (.str t), .d (.str wth)] [(1000000, strm n L a)] (fun y r => (∃ u, u.length ≤ t.length + wth.length + 4 ∧ y = .d (.str u)) ∧ Moved n L a 4 r) := z74 n L hL a h0 ha t wth ht hw
theorem pick4 {u : Int} (h : u ∈ [(0 : Int), 0, 1, 2]) : 0 ≤ u ∧ u ≤ 2 := by simp at h; omega
theorem z23 (n : Nat) (L : Nat → Int) (hL : Rok n L) (a : Int) (h0 : 0 ≤ a) (ha : a ≤ 2^37) :
 FSpec Tryz.prog 23 [.ptr 1000000 0] [(1000000, strm n L a), (1000009, KX)] (fun y r => (∃ t : List UInt8, t.length ≤ 2^18 ∧ y = .d (.str t)) ∧ MovedK n L a 80 r) := by
 refine spec_of hT (C := []) Tryz.func23 rfl Tryz.call23 rfl rfl rfl ?_
 conv => whnf
 repeat' (first | (refine CallX.of (s64 n L hL _ ?_ ?_ _ _ ?_ ?_ ?_ ?_) [(1000000, 1000000)] rfl ⟨lr, lr, lr, trivial⟩ ⟨rr, trivial⟩ rfl rfl ?_; rotate_right; rintro x rout ⟨⟨u0, hu1, hu2, rfl⟩, ⟨c, c1, c2, rfl⟩⟩; refine ⟨rfl, ?_⟩; conv => whnf) | (refine CallX.of (s63 n L hL _ ?_ ?_ _ ?_ ?_) [(1000000, 1000000)] rfl ⟨lr, lr, trivial⟩ ⟨rr, trivial⟩ rfl rfl ?_; rotate_right; rintro x rout ⟨⟨l, hl, rfl⟩, ⟨c, c1, c2, rfl⟩⟩; refine ⟨rfl, ?_⟩; conv => whnf) | (refine br_intro ?_ ?_ <;> intro hb <;> (try simp only [brs] at hb) <;> conv => whnf) | omega | (refine And.intro ?_ ?_; ((try dsimp only); first | omega | (refine szA rfl ?_; omega) | (refine szB rfl ?_; omega) | (unfold inI64; omega) | exact rfl | (simp only [List.toList_toArray, List.length_cons, List.length_nil]; omega) | (simp only [lns] at *; omega) | decide | (unfold inI64; decide)); conv => whnf) | decide | assumption)
 have hl2 := pSh_tx hl (by omega)
 have hl3 := txF_len (pf := pasP) (l := l) (fun p hp => pas1_ln (hl2.2 p hp))
 have hl4 := hl.1
 refine CallX.kn (z22 l hl2) rfl rfl rfl rfl ?_
 conv => whnf
 repeat' (first | (refine CallX.of (s33 n L hL _ ?_ ?_ [0, 0, 1, 2] ?_ ?_) [(1000000, 1000000)] rfl ⟨lr, SV.le_lit rfl rfl, trivial⟩ ⟨rr, trivial⟩ rfl rfl ?_; rotate_right; rintro x rout ⟨⟨u1, hu3, rfl⟩, ⟨c, c1, c2, rfl⟩⟩; refine ⟨rfl, ?_⟩; conv => whnf) | (refine br_intro ?_ ?_ <;> intro hb <;> (try simp only [brs] at hb) <;> conv => whnf) | omega | (refine And.intro ?_ ?_; ((try dsimp only); first | omega | (refine szA rfl ?_; omega) | (refine szB rfl ?_; omega) | (unfold inI64; omega) | exact rfl | (simp only [List.toList_toArray, List.length_cons, List.length_nil]; omega) | (simp only [lns] at *; omega) | decide | (unfold inI64; decide)); conv => whnf) | decide | assumption)
 have hu4 := pick4 hu3
 refine LoopX.rule hT (C := []) (ι := Int × List UInt8 × Nat) (fun (b, t, k) => (a ≤ b ∧ b ≤ a + 70 + 4 * k) ∧ ((k : Int) ≤ u1 ∧ t.length ≤ 2^17 + 20 * k))
  (fun (b, t, k) => mkSt [(0, .ptr 1000000 0), (3, .d (.str t)), (11, .d (.int .i64 u1)), (12, .d (.int .i64 k))] [(1000000, strm n L b), (1000009, KX)]) (fun (_, _, k) => 2 - k) (c, _, 0) ⟨⟨?_, ?_⟩, ?_, ?_⟩ (by (refine Entails.mk' [(1000000, 1000000), (1000009, 1000009)] rfl rfl ?_ ?_ <;> repeat' (first | exact True.intro | exact lr | exact rr | exact SV.le_int (by omega) | exact SV.le_any _ | refine And.intro ?_ ?_)); done) ?_
 · omega
 · simp; omega
 · simp; omega
 · simp; omega
 rintro ⟨b, t, k⟩ ⟨⟨p1, p2⟩, p3, p4⟩
 conv => whnf
 repeat' (first | (refine CallX.of (s74 n L hL _ ?_ ?_ t _ ?_ ?_) [(1000000, 1000000)] rfl ⟨lr, lr, lr, trivial⟩ ⟨rr, trivial⟩ rfl rfl ?_; rotate_right; rintro x rout ⟨⟨u, hu, rfl⟩, ⟨c, c1, c2, rfl⟩⟩; refine ⟨rfl, ?_⟩; conv => whnf) | (refine br_intro ?_ ?_ <;> intro hb <;> (try simp only [brs] at hb) <;> conv => whnf) | omega | (refine And.intro ?_ ?_; ((try dsimp only); first | omega | (refine szA rfl ?_; omega) | (refine szB rfl ?_; omega) | (unfold inI64; omega) | exact rfl | (simp only [List.toList_toArray, List.length_cons, List.length_nil]; omega) | (simp only [lns] at *; omega) | decide | (unfold inI64; decide)); conv => whnf) | decide | assumption)
 · simp only [List.toList_toArray, List.length_cons, List.length_nil] at hu
   exact ⟨(c, u, k + 1), ⟨⟨by omega, by omega⟩, by omega, by omega⟩, by show 2 - (k + 1) < 2 - k; omega, (by (refine Entails.mk' [(1000000, 1000000), (1000009, 1000009)] rfl rfl ?_ ?_ <;> repeat' (first | exact True.intro | exact lr | exact rr | exact SV.le_int (by omega) | exact SV.le_any _ | refine And.intro ?_ ?_)); done)⟩
 · refine .ret _ ?_
   conv => whnf
   exact ⟨[(1000000, strm n L b), (1000009, KX)], ⟨⟨t, by omega, rfl⟩, ⟨b, by omega, by omega, rfl⟩⟩, rr, rr, trivial⟩
theorem rdF_len {text : List UInt8} (ht : text.length ≤ 2^20) : (rdF tkPas formE text).1.length ≤ 2^40 := by
 have h := (pOk_rd text ht).1
 unfold rdF
 cases decide (200000 < text.length) with
 | true => simp
 | false =>
   simp only [cond_false]
   cases (lnsF tkPas (text.length + 1) 0 text []).1.2 with
   | false => simp
   | true =>
     simp only [cond_true]
     cases decide (formE (lnsF tkPas (text.length + 1) 0 text []).2 = 0) with
     | false => simp
     | true => exact h
theorem pSh_ok {l : List Pas} {k : Nat} (h : pSh l k) (hk : k ≤ 2^15) : pOk l :=
 ⟨by have := h.1; omega, fun p hp => by
   obtain ⟨h1, h2, _⟩ := h.2 p hp
   exact ⟨by omega, by omega⟩⟩
theorem z4 (n : Nat) (L : Nat → Int) (hn : n ≤ maxLen) (hL : ∀ i, -2^63 ≤ L i ∧ L i < 2^63) :
 FSpec Tryz.prog 4 [.d (.ro 1 n fun i => [.int .i64 (L i)])] kx (fun x r => x = .d (.bool true) ∧ r = kx) := by
 have hR : Rok n L := ⟨hn, hL⟩
 refine spec_of hT (C := []) Tryz.func4 rfl Tryz.call4 rfl rfl rfl ?_
 conv => whnf
 repeat' (first | (refine CallX.of (s64 n L hR 0 (by omega) (by omega) 0 6 (by omega) (by omega) (by omega) (by omega)) [(1000000, 15)] rfl ⟨lr, lr, lr, trivial⟩ ⟨rr, trivial⟩ rfl rfl ?_; rintro x rout ⟨⟨u0, hu1, hu2, rfl⟩, ⟨c, c1, c2, rfl⟩⟩; refine ⟨rfl, ?_⟩; conv => whnf) | (refine CallX.of (s63 n L hR c (by omega) (by omega) u0 (by omega) (by omega)) [(1000000, 15)] rfl ⟨lr, lr, trivial⟩ ⟨rr, trivial⟩ rfl rfl ?_; rintro x rout ⟨⟨l, hl, rfl⟩, ⟨c, c1, c2, rfl⟩⟩; refine ⟨rfl, ?_⟩; conv => whnf) | (refine br_intro ?_ ?_ <;> intro hb <;> (try simp only [brs] at hb) <;> conv => whnf) | omega | (refine And.intro ?_ ?_; ((try dsimp only); first | omega | (refine szA rfl ?_; omega) | (refine szB rfl ?_; omega) | (unfold inI64; omega) | exact rfl | (simp only [List.toList_toArray, List.length_cons, List.length_nil]; omega) | (simp only [lns] at *; omega) | decide | (unfold inI64; decide)); conv => whnf) | decide | assumption)
 have hl2 := pSh_tx hl (by omega)
 have hl3 := pSh_ok hl (by omega)
 have C20 := z20 l hl3 hl2
 have C22 := z22 l hl2
 have C21 := s131 l hl3
 have C23 := z23 n L hR c (by omega) (by omega)
 by_cases E : formE l = 0
 · rw [if_pos E, E] at C20
   rw [E] at C21
   repeat' (first | (refine CallX.kn C20 rfl rfl rfl rfl ?_; conv => whnf) | (refine CallX.exact (C21) rfl rfl ?_; rotate_right; conv => whnf) | (refine CallX.kn C22 rfl rfl rfl rfl ?_; conv => whnf) | (refine CallX.of C23 [(1000000, 15), (1000009, 1000009)] rfl ⟨lr, trivial⟩ ⟨rr, rr, trivial⟩ rfl rfl ?_; rintro x rout ⟨⟨t, ht, rfl⟩, ⟨c, c1, c2, rfl⟩⟩; refine ⟨rfl, ?_⟩; conv => whnf) | (refine br_intro ?_ ?_ <;> intro hb <;> (try simp only [brs] at hb) <;> conv => whnf) | omega | (refine And.intro ?_ ?_; ((try dsimp only); first | omega | (refine szA rfl ?_; omega) | (refine szB rfl ?_; omega) | (unfold inI64; omega) | exact rfl | (simp only [List.toList_toArray, List.length_cons, List.length_nil]; omega) | (simp only [lns] at *; omega) | decide | (unfold inI64; decide)); conv => whnf) | decide | assumption)
   have hA := rdF_len (text := t) (by omega)
   have C24 := z24 t (by omega)
   have C25 := z25 t (by omega)
   have C26 := z26 (rdF tkPas formE t).1 (rdF tkPas formE t).1 hA
   generalize rdF tkPas formE t = R at C24 C25 C26
   obtain ⟨ra, rb, rc⟩ := R
   rw [decide_eq_true (rfl : ra = ra)] at C26
   repeat' (first | (refine CallX.kn C24 rfl rfl rfl rfl ?_; conv => whnf) | (refine CallX.kn C25 rfl rfl rfl rfl ?_; conv => whnf) | (refine CallX.exact (C26) rfl rfl ?_; rotate_right; conv => whnf) | (refine CallX.exact (s24) rfl rfl ?_; rotate_right; conv => whnf) | (refine br_intro ?_ ?_ <;> intro hb <;> (try simp only [brs] at hb) <;> conv => whnf) | omega | (refine And.intro ?_ ?_; ((try dsimp only); first | omega | (refine szA rfl ?_; omega) | (refine szB rfl ?_; omega) | (unfold inI64; omega) | exact rfl | (simp only [List.toList_toArray, List.length_cons, List.length_nil]; omega) | (simp only [lns] at *; omega) | decide | (unfold inI64; decide)); conv => whnf) | decide | assumption)
   refine .ret _ ?_
   conv => whnf
   refine ⟨kx, ⟨?_, rfl⟩, rr, trivial⟩
   conv => lhs; whnf
 · rw [if_neg E] at C20
   generalize formE l = e at C20 C21 E
   repeat' (first | (refine CallX.kn C20 rfl rfl rfl rfl ?_; conv => whnf) | (refine CallX.exact (C21) rfl rfl ?_; rotate_right; conv => whnf) | (refine CallX.kn C22 rfl rfl rfl rfl ?_; conv => whnf) | (refine CallX.of C23 [(1000000, 15), (1000009, 1000009)] rfl ⟨lr, trivial⟩ ⟨rr, rr, trivial⟩ rfl rfl ?_; rintro x rout ⟨⟨t, ht, rfl⟩, ⟨c, c1, c2, rfl⟩⟩; refine ⟨rfl, ?_⟩; conv => whnf) | (refine br_intro ?_ ?_ <;> intro hb <;> (try simp only [brs] at hb) <;> conv => whnf) | omega | (refine And.intro ?_ ?_; ((try dsimp only); first | omega | (refine szA rfl ?_; omega) | (refine szB rfl ?_; omega) | (unfold inI64; omega) | exact rfl | (simp only [List.toList_toArray, List.length_cons, List.length_nil]; omega) | (simp only [lns] at *; omega) | decide | (unfold inI64; decide)); conv => whnf) | decide | assumption)
   have hA := rdF_len (text := t) (by omega)
   have C24 := z24 t (by omega)
   have C25 := z25 t (by omega)
   have C26 := z26 (rdF tkPas formE t).1 (rdF tkPas formE t).1 hA
   generalize rdF tkPas formE t = R at C24 C25 C26
   obtain ⟨ra, rb, rc⟩ := R
   rw [decide_eq_true (rfl : ra = ra)] at C26
   repeat' (first | (refine CallX.kn C24 rfl rfl rfl rfl ?_; conv => whnf) | (refine CallX.kn C25 rfl rfl rfl rfl ?_; conv => whnf) | (refine CallX.exact (C26) rfl rfl ?_; rotate_right; conv => whnf) | (refine CallX.exact (s24) rfl rfl ?_; rotate_right; conv => whnf) | (refine br_intro ?_ ?_ <;> intro hb <;> (try simp only [brs] at hb) <;> conv => whnf) | omega | (refine And.intro ?_ ?_; ((try dsimp only); first | omega | (refine szA rfl ?_; omega) | (refine szB rfl ?_; omega) | (unfold inI64; omega) | exact rfl | (simp only [List.toList_toArray, List.length_cons, List.length_nil]; omega) | (simp only [lns] at *; omega) | decide | (unfold inI64; decide)); conv => whnf) | decide | assumption)
   refine .ret _ ?_
   conv => whnf
   refine ⟨kx, ⟨?_, rfl⟩, rr, trivial⟩
   conv => lhs; whnf
end Go.Proofs.YtgeakdcbpjmkbaaGreatDoor
