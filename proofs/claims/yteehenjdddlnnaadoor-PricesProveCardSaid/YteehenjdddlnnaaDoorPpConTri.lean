/- PricesProve is proved: for every input the law returns true, and its argument reads afterwards as it read before. Conditions: those of the given row alone. -/
import Derived.Test.YteehenjdddlnnaaDoorPpConTwo
import Derived.Test.YteehenjdddlnnaaDoorPpConOne
import Derived.Test.YteehenjdddlnnaaDoorPpEngTwo
set_option linter.unusedVariables false
set_option linter.unusedSimpArgs false
set_option maxRecDepth 20000
namespace Go.Proofs.YteehenjdddlnnaaDoor
open Go Go.Eng
def oWRoB13_6 : List (Nat × List Nat) := [(0, []), (1, [0]), (2, []), (3, []), (4, [0, 1, 2, 3]), (5, [0, 1, 2, 3, 4]), (6, [0, 1, 2, 3]), (7, [0, 1, 2, 3]), (8, [])]
theorem p57 (l m : List Mov) (hl : l.length ≤ 2^40) : FSpec Tryd.prog 13 [.d (movs l), .d (movs m)] [] (fun x r => x = .d (.bool (decide (l = m))) ∧ r = []) := by
 refine spec_of hT (C := []) Tryd.func13 rfl Tryd.call13 rfl rfl rfl ?_
 conv => whnf
 repeat' (first | (refine br_intro ?_ ?_ <;> intro hb <;> (try simp only [brs] at hb) <;> conv => whnf) | (refine RegX.rule (id := 6) hT rfl [] oWRoB13_6 (by decide +kernel) ?_; conv => whnf) | omega | (refine And.intro ?_ ?_; ((try dsimp only); first | omega | (refine szA rfl ?_; omega) | (refine szB rfl ?_; omega) | (unfold inI64; omega) | exact rfl | (simp only [lns] at *; omega) | decide | (unfold inI64; decide)); conv => whnf) | decide | assumption)
 · refine .ret _ ?_
   conv => whnf
   refine ⟨[], ⟨?_, rfl⟩, trivial⟩
   conv => lhs; whnf
   have : ¬ l = m := fun q => by subst q; simp at hb
   simp [this]
 have hlen : l.length = m.length := by
  omega
 refine LoopX.rule hT (C := []) (ι := Nat) (fun i => i ≤ l.length ∧ ∀ j, j < i → l.getD j mv0 = m.getD j mv0) (fun i => mkSt [(0, .d (movs l)), (1, .d (movs m)), (12, .d (.int .i64 l.length)), (13, .d (.int .i64 i))] []) (fun i => l.length - i) 0 ⟨by omega, by omega⟩ (by (refine Entails.mk' [] rfl rfl ?_ ?_ <;> repeat' (first | exact True.intro | exact lr | exact rr | exact SV.le_int (by omega) | exact SV.le_any _ | refine And.intro ?_ ?_)); done) ?_
 rintro i ⟨p1, p2⟩
 have e1 : (i : Int).toNat = i := Int.toNat_natCast i
 conv => whnf
 repeat' (first | (refine br_intro ?_ ?_ <;> intro hb <;> (try simp only [brs] at hb) <;> conv => whnf) | (refine RegX.rule (id := 6) hT rfl [] oWRoB13_6 (by decide +kernel) ?_; conv => whnf) | omega | (refine And.intro ?_ ?_; ((try dsimp only); first | omega | (refine szA rfl ?_; omega) | (refine szB rfl ?_; omega) | (unfold inI64; omega) | exact rfl | (simp only [lns] at *; omega) | decide | (unfold inI64; decide)); conv => whnf) | decide | assumption)
 · refine .ret _ ?_
   conv => whnf
   refine ⟨[], ⟨?_, rfl⟩, trivial⟩
   conv => lhs; whnf
   have : ¬ l = m := fun q => by subst q; simp at hb
   simp [this]
 · exact ⟨i + 1, ⟨by omega, all_step p2 (by rw [mov_eq]; simpa [and_assoc] using hb)⟩, by omega, (by (refine Entails.mk' [] rfl rfl ?_ ?_ <;> repeat' (first | exact True.intro | exact lr | exact rr | exact SV.le_int (by omega) | exact SV.le_any _ | refine And.intro ?_ ?_)); done)⟩
 · refine .ret _ ?_
   conv => whnf
   refine ⟨[], ⟨?_, rfl⟩, trivial⟩
   conv => lhs; whnf
   have : i = l.length := by omega
   subst this
   simp [eq_of_getD mv0 hlen p2]
theorem p19 : FSpec Tryd.prog 14 [] [] (fun x r => x = .d (.bool true) ∧ r = []) := by
 refine spec_of hT (C := []) Tryd.func14 rfl Tryd.call14 rfl rfl rfl ?_
 conv => whnf
 repeat' (first | (refine CallX.of s27t [] rfl ⟨SV.le_lit rfl rfl, SV.le_lit rfl rfl, trivial⟩ trivial rfl rfl ?_; rintro x rout ⟨rfl, rfl⟩; refine ⟨rfl, ?_⟩; conv => whnf) | (refine CallX.of (p57 [⟨[97], [98], 1⟩] [⟨[97], [98], 1⟩] (by simp)) [] rfl ⟨lr, SV.le_lit rfl rfl, trivial⟩ trivial rfl rfl ?_; rintro x rout ⟨rfl, rfl⟩; refine ⟨rfl, ?_⟩; conv => whnf) | (refine br_intro ?_ ?_ <;> intro hb <;> (try simp only [brs] at hb) <;> conv => whnf) | omega | (refine And.intro ?_ ?_; ((try dsimp only); first | omega | (refine szA rfl ?_; omega) | (refine szB rfl ?_; omega) | (unfold inI64; omega) | exact rfl | (simp only [lns] at *; omega) | decide | (unfold inI64; decide)); conv => whnf) | decide | assumption)
 all_goals try (exfalso; simp at hb; done)
 all_goals
  refine .ret _ ?_
  conv => whnf
  exact ⟨[], ⟨rfl, rfl⟩, trivial⟩
def ndS (x : Ned) : Prop := x.st.length ≤ 8
abbrev ndB (l : List Ned) : Res := seqB 55 2 ndF nd0 l
set_option maxHeartbeats 2000000 in
theorem sNds (n : Nat) (L : Nat → Int) (hL : Rok n L) (a : Int) (h0 : 0 ≤ a) (ha : a ≤ 2^38) :
 FSpec Tryd.prog 5 [.ptr 1000000 0] [(1000000, strm n L a)] (fun y r => (∃ l : List Ned, allK ndS 5 l ∧ y = .d (neds l)) ∧ Moved n L a 100 r) := by
 refine spec_of hT (C := []) Tryd.func5 rfl Tryd.call5 rfl rfl rfl ?_
 conv => whnf
 repeat' (first | (refine br_intro ?_ ?_ <;> intro hb <;> (try simp only [brs] at hb) <;> conv => whnf) | omega | (refine And.intro ?_ ?_; ((try dsimp only); first | omega | (refine szA rfl ?_; omega) | (refine szB rfl ?_; omega) | (unfold inI64; omega) | exact rfl | (simp only [lns] at *; omega) | decide | (unfold inI64; decide)); conv => whnf) | decide | assumption)
 refine LoopX.rule hT (C := []) (ι := Int × Nat × List Ned) (fun (b, i, l) => (a ≤ b ∧ b ≤ a + 3 * i ∧ i ≤ 5) ∧ allK ndS i l)
  (fun (b, i, l) => mkSt [(0, .ptr 1000000 0), (3, .buf 3), (7, .d (strs tE)), (8, .d (.int .i64 5)), (9, .d (.int .i64 i))] [(1000000, strm n L b), (3, ndB l)]) (fun (_, i, _) => 5 - i) (a, 0, []) ⟨by simp, by simp [allK]⟩ ?_ ?_
 · exact (Entails.nil 3 3 55 2 (rowF ndF nd0 []) rfl rfl (by decide)).trans (by (refine Entails.mk' [(1000000, 1000000), (3, 3)] rfl rfl ?_ ?_ <;> repeat' (first | exact True.intro | exact lr | exact rr | (exact SV.le_lit rfl rfl) | exact SV.le_int (by omega) | exact SV.le_any _ | refine And.intro ?_ ?_)); done)
 rintro ⟨b, i, l⟩ ⟨⟨p1, p2, p3⟩, p4⟩
 have p1 : a ≤ b := p1
 have p2 : b ≤ a + 3 * i := p2
 have p3 : i ≤ 5 := p3
 have p4 : allK ndS i l := p4
 have hll := p4.1
 have htl : tE.length = 5 := rfl
 conv => whnf
 repeat' (first | (refine CallX.of (s84 n L hL _ ?_ ?_ _ ?_) [(1000000, 1000000)] rfl ⟨lr, lr, trivial⟩ ⟨rr, trivial⟩ rfl rfl ?_; rotate_right; rintro x rout ⟨⟨f, rfl⟩, ⟨c, c1, c2, rfl⟩⟩; refine ⟨rfl, ?_⟩; conv => whnf) | (refine CallX.of (s33 n L hL _ ?_ ?_ [0, 1, 2, 3, -1, -2, 4] ?_ ?_) [(1000000, 1000000)] rfl ⟨lr, SV.le_lit rfl rfl, trivial⟩ ⟨rr, trivial⟩ rfl rfl ?_; rotate_right; rintro x rout ⟨⟨u1, hu1, rfl⟩, ⟨c, c1, c2, rfl⟩⟩; refine ⟨rfl, ?_⟩; conv => whnf) | (refine br_intro ?_ ?_ <;> intro hb <;> (try simp only [brs] at hb) <;> conv => whnf) | omega | (refine And.intro ?_ ?_; ((try dsimp only); first | omega | (refine szA rfl ?_; omega) | (refine szB rfl ?_; omega) | (unfold inI64; omega) | exact rfl | (simp only [lns] at *; omega) | decide | (unfold inI64; decide)); conv => whnf) | decide | assumption)
 all_goals try (exfalso; omega)
 · refine ⟨(_, i + 1, l ++ [⟨tE.getD i [], u1⟩]), ⟨⟨by omega, ?_, by omega⟩, allK_snoc p4 (by omega) (Nat.le_trans tE_len (by decide))⟩, (show 5 - (i + 1) < 5 - i by omega), Entails.mk' [(1000000, 1000000), (3, 23)] rfl rfl ⟨lr, lr, lr, lr, lr, trivial⟩ ⟨rr, Res.le_snocF rfl, trivial⟩⟩
   show _ ≤ a + 3 * ((i + 1 : Nat) : Int)
   omega
 · refine ⟨(_, i + 1, l), ⟨⟨by omega, ?_, by omega⟩, allK_le p4 (by omega)⟩, (show 5 - (i + 1) < 5 - i by omega), Entails.mk' [(1000000, 1000000), (3, 3)] rfl rfl ⟨lr, lr, lr, lr, lr, trivial⟩ ⟨rr, rr, trivial⟩⟩
   show _ ≤ a + 3 * ((i + 1 : Nat) : Int)
   omega
 all_goals
  have p5 : allK ndS 5 l := allK_le p4 (by omega)
  have hl5 := p5.1
  repeat' (first | (refine CallX.of (s86 n L hL _ ?_ ?_ _ ?_) [(1000000, 1000000)] rfl ⟨lr, lr, trivial⟩ ⟨rr, trivial⟩ rfl rfl ?_; rotate_right; rintro x rout ⟨⟨j, hj1, hj2, hj3, rfl⟩, ⟨c, c1, c2, rfl⟩⟩; refine ⟨rfl, ?_⟩; conv => whnf) | (refine CallX.of (s15 n L hL _ ?_ ?_ [(l.getD j.toNat nd0).st, [], [97]] (by simp) (by simp)) [(1000000, 1000000)] rfl ⟨lr, SV.le_lit rfl rfl, trivial⟩ ⟨rr, trivial⟩ rfl rfl ?_; rotate_right; rintro x rout ⟨⟨u1, hu1, rfl⟩, ⟨c, c1, c2, rfl⟩⟩; refine ⟨rfl, ?_⟩; conv => whnf) | (refine CallX.of (s104 n L hL _ ?_ ?_ (-20) 20 ?_ ?_ ?_) [(1000000, 1000000)] rfl ⟨lr, lr, lr, trivial⟩ ⟨rr, trivial⟩ rfl rfl ?_; rotate_right; rintro x rout ⟨⟨u3, hk1, hk2, rfl⟩, ⟨c, c1, c2, rfl⟩⟩; refine ⟨rfl, ?_⟩; conv => whnf) | (refine br_intro ?_ ?_ <;> intro hb <;> (try simp only [brs] at hb) <;> conv => whnf) | omega | (refine And.intro ?_ ?_; ((try dsimp only); first | omega | (refine szA rfl ?_; omega) | (refine szB rfl ?_; omega) | (unfold inI64; omega) | exact rfl | (simp only [lns] at *; omega) | decide | (unfold inI64; decide)); conv => whnf) | decide | assumption)
 all_goals first
  | (refine .freeze _ 3 55 2 _ _ rfl (.weak _ ?_)
     (conv => whnf)
     have hx := p5.2 (l.getD j.toNat nd0) (getD_mem (by omega))
     have hq1 := three_len hu1 hx (by decide) (by decide)
     exact ⟨_, [(1000000, strm n L _)], SV.le_upd2 (f := ndF) (d := nd0) (fun y : Ned => { y with st := u1 }) (fun y => { y with many := u3 }) (fun _ => rfl) (fun _ => rfl), ⟨⟨_, allK_upd (g := fun y : Ned => { y with many := u3 }) (allK_upd (g := fun y : Ned => { y with st := u1 }) p5 (fun y hy => hq1)) (fun y hy => hy), rfl⟩, _, by omega, by omega, rfl⟩, rr, trivial⟩)
  | (refine .freeze _ 3 55 2 _ _ rfl (.weak _ ?_)
     (conv => whnf)
     exact ⟨_, [(1000000, strm n L _)], lr, ⟨⟨l, p5, rfl⟩, _, by omega, by omega, rfl⟩, rr, trivial⟩)
theorem p12t (e : Int) : FSpec Tryd.prog 12 [.d (.bool true), .d (.int .i64 e)] [] (fun x r => x = .d (.int .i64 e) ∧ r = []) := by
 refine spec_of hT (C := []) Tryd.func12 rfl Tryd.call12 rfl rfl rfl ?_
 conv => whnf
 repeat' (first | (refine br_intro ?_ ?_ <;> intro hb <;> (try simp only [brs] at hb) <;> conv => whnf) | omega | (refine And.intro ?_ ?_; ((try dsimp only); first | omega | (refine szA rfl ?_; omega) | (refine szB rfl ?_; omega) | (unfold inI64; omega) | exact rfl | (simp only [lns] at *; omega) | decide | (unfold inI64; decide)); conv => whnf) | decide | assumption)
 refine .ret _ ?_
 conv => whnf
 refine ⟨[], ⟨?_, rfl⟩, trivial⟩
 conv => lhs; whnf
theorem p12f (e : Int) : FSpec Tryd.prog 12 [.d (.bool false), .d (.int .i64 e)] [] (fun x r => x = .d (.int .i64 0) ∧ r = []) := by
 refine spec_of hT (C := []) Tryd.func12 rfl Tryd.call12 rfl rfl rfl ?_
 conv => whnf
 repeat' (first | (refine br_intro ?_ ?_ <;> intro hb <;> (try simp only [brs] at hb) <;> conv => whnf) | omega | (refine And.intro ?_ ?_; ((try dsimp only); first | omega | (refine szA rfl ?_; omega) | (refine szB rfl ?_; omega) | (unfold inI64; omega) | exact rfl | (simp only [lns] at *; omega) | decide | (unfold inI64; decide)); conv => whnf) | decide | assumption)
 refine .ret _ ?_
 conv => whnf
 refine ⟨[], ⟨?_, rfl⟩, trivial⟩
 conv => lhs; whnf
theorem ndOk_of {l : List Ned} (h : allK ndS 5 l) : ndOk l := ⟨by have := h.1; omega, fun x hx => by have h1 : x.st.length ≤ 8 := h.2 x hx; show x.st.length ≤ 2^40; omega⟩
theorem rdOk_of {l : List Roa} (h : allK rdS 25 l) : rdOk l := ⟨by have := h.1; omega, fun x hx => by have h1 := h.2 x hx; exact ⟨by have := h1.1; omega, by have := h1.2; omega⟩⟩
def lwr (D : List Int) (i : Nat) (x : Int) : List Int := if x < D.getD i 0 then D.set i x else D
theorem p61b (D : List Int) (i : Nat) (x : Int) (hi : i < D.length) : FSpec Tryd.prog 32 [.bel 1000000 1 i 0, .d (.int .i64 x)] [(1000000, seqB 3 1 iF 0 D)]
 (fun y r => y = .d (.bool (decide (x < D.getD i 0))) ∧ r = [(1000000, seqB 3 1 iF 0 (lwr D i x))]) := by
 refine spec_of hT (C := []) Tryd.func32 rfl Tryd.call32 rfl rfl rfl ?_
 conv => whnf
 repeat' (first | (refine br_intro ?_ ?_ <;> intro hb <;> (try simp only [brs] at hb) <;> conv => whnf) | omega | (refine And.intro ?_ ?_; ((try dsimp only); first | omega | (refine szA rfl ?_; omega) | (refine szB rfl ?_; omega) | (unfold inI64; omega) | exact rfl | (simp only [lns] at *; omega) | decide | (unfold inI64; decide)); conv => whnf) | decide | assumption)
 · refine .ret _ ?_
   conv => whnf
   refine ⟨_, ⟨?_, rfl⟩, ?_, trivial⟩
   · conv => lhs; whnf
     rw [decide_eq_false (by omega)]
   · unfold lwr; rw [if_neg (by omega)]; exact rr
 · refine .ret _ ?_
   conv => whnf
   refine ⟨_, ⟨?_, rfl⟩, ?_, trivial⟩
   · conv => lhs; whnf
     rw [decide_eq_true (by omega)]
   · unfold lwr; rw [if_pos (by omega)]; exact Res.le_upd (fun _ => x) (fun y => rfl)
theorem p61a (s x : Int) : FSpec Tryd.prog 32 [.ptr 1000000 0, .d (.int .i64 x)] [(1000000, .cells 3 [.d (.int .i64 s)])]
 (fun y r => y = .d (.bool (decide (x < s))) ∧ r = [(1000000, .cells 3 [.d (.int .i64 (if x < s then x else s))])]) := by
 refine spec_of hT (C := []) Tryd.func32 rfl Tryd.call32 rfl rfl rfl ?_
 conv => whnf
 repeat' (first | (refine br_intro ?_ ?_ <;> intro hb <;> (try simp only [brs] at hb) <;> conv => whnf) | omega | (refine And.intro ?_ ?_; ((try dsimp only); first | omega | (refine szA rfl ?_; omega) | (refine szB rfl ?_; omega) | (unfold inI64; omega) | exact rfl | (simp only [lns] at *; omega) | decide | (unfold inI64; decide)); conv => whnf) | decide | assumption)
 · refine .ret _ ?_
   conv => whnf
   refine ⟨_, ⟨?_, rfl⟩, ?_, trivial⟩
   · conv => lhs; whnf
     rw [decide_eq_false (by omega)]
   · rw [if_neg (by omega)]; exact rr
 · refine .ret _ ?_
   conv => whnf
   refine ⟨_, ⟨?_, rfl⟩, ?_, trivial⟩
   · conv => lhs; whnf
     rw [decide_eq_true (by omega)]
   · rw [if_pos (by omega)]; exact rr
def dst (N : Nat) (D : List Int) (s : Int) (v : Nat) : Int := if v < N then getI D v else s
theorem lwr_len (D : List Int) (i : Nat) (x : Int) : (lwr D i x).length = D.length := by unfold lwr; split <;> simp
theorem dst_set {N : Nat} {D : List Int} {s : Int} {i : Nat} {x : Int} (hi : i < N) (hD : D.length = N) : dst N (D.set i x) s = upd (dst N D s) i x := by
 funext v
 unfold dst
 rw [getI_set (by omega)]
 unfold upd
 by_cases q : v = i
 · subst q; rw [if_pos hi, if_pos rfl, if_pos rfl]
 · rw [if_neg q, if_neg q]
theorem dst_store {N : Nat} {D : List Int} {s x : Int} {v : Nat} (hv : v < N + 1) : dst N D x v = upd (dst N D s) N x v := by
 show (if v < N then getI D v else x) = if v = N then x else (if v < N then getI D v else s)
 by_cases q : v < N
 · rw [if_pos q, if_neg (by omega), if_pos q]
 · rw [if_neg q, if_pos (by omega)]
structure RelI (G : Nw) (R : Nat × Bool → Prop) (p : Nat → Int) (P : Int) (D0 : List Int) (s0 : Int) (D : List Int) (s : Int) (ch : Bool) (Q : Nat × Bool → Prop) : Prop where
 len : D.length = G.N
 pw : ∃ b, G.ext.Pw R p P (dst G.N D s) b
 no : ch = false → (D = D0 ∧ s = s0) ∧ ∀ e, R e → Q e → dst G.N D s (G.ext.hd e) ≤ dst G.N D s (G.ext.tl e) + G.ext.cc e
 yes : ch = true → su (dst G.N D s) (G.N + 1) < su (dst G.N D0 s0) (G.N + 1)
theorem RelI.weak {G : Nw} {R : Nat × Bool → Prop} {p : Nat → Int} {P : Int} {D0 D : List Int} {s0 s : Int} {ch : Bool} {Q Q' : Nat × Bool → Prop} (h : RelI G R p P D0 s0 D s ch Q) (hq : ∀ e, R e → Q' e → Q e) : RelI G R p P D0 s0 D s ch Q' :=
 ⟨h.len, h.pw, fun z => ⟨(h.no z).1, fun e he q => (h.no z).2 e he (hq e he q)⟩, h.yes⟩
theorem RelI.le {G : Nw} {R : Nat × Bool → Prop} {p : Nat → Int} {P : Int} {D0 D : List Int} {s0 s : Int} {ch : Bool} {Q : Nat × Bool → Prop} (h : RelI G R p P D0 s0 D s ch Q) : su (dst G.N D s) (G.N + 1) ≤ su (dst G.N D0 s0) (G.N + 1) := by
 cases hc : ch with
 | false => obtain ⟨⟨e1, e2⟩, _⟩ := h.no hc; rw [e1, e2]; exact Int.le_refl _
 | true => have := h.yes hc; omega
theorem Pw_congr {G : Nw} {R : Nat × Bool → Prop} (hop : ∀ e, R e → G.hd e < G.N ∧ G.tl e < G.N) {p : Nat → Int} {P : Int} {d d' : Nat → Int} {b : Nat → Option (Nat × Bool)} (hd : ∀ v, v < G.N → d' v = d v) (h : G.Pw R p P d b) : G.Pw R p P d' b := by
 refine ⟨fun v hv => by rw [hd v hv]; exact h.low v hv, fun v hv hb => by rw [hd v hv]; exact h.root v hv hb, fun v e hv he => ?_, h.rt⟩
 obtain ⟨h1, h2, h3⟩ := h.st v e hv he
 exact ⟨h1, h2, by rw [hd v hv, hd _ (hop e h1).2]; exact h3⟩
theorem RelI.edge {G : Nw} {R : Nat × Bool → Prop} {p : Nat → Int} {P : Int} {D0 D : List Int} {s0 s : Int} {ch : Bool} {Q : Nat × Bool → Prop} (h : RelI G R p P D0 s0 D s ch Q) (hE : G.ext.Ok) (hp : G.ext.Op R p) {e : Nat × Bool} (he : R e) {x : Int} (hx : dst G.N D s (G.ext.tl e) + G.ext.cc e = x)
 {D' : List Int} {s' : Int} (hl : D'.length = G.N) (h1 : x < dst G.N D s (G.ext.hd e) → ∀ v, v < G.N + 1 → dst G.N D' s' v = upd (dst G.N D s) (G.ext.hd e) x v) (h2 : ¬ x < dst G.N D s (G.ext.hd e) → D' = D ∧ s' = s) :
 RelI G R p P D0 s0 D' s' (decide (x < dst G.N D s (G.ext.hd e)) || ch) (fun e' => Q e' ∨ e' = e) := by
 by_cases q : x < dst G.N D s (G.ext.hd e)
 · have hh := Nw.hd_lt hE (hp.lt e he)
   have hop : ∀ e, R e → G.ext.hd e < G.ext.N ∧ G.ext.tl e < G.ext.N := fun e he => Nw.hd_lt hE (hp.lt e he)
   obtain ⟨b, hb⟩ := h.pw
   have hr := hb.relax hE hp he (by rw [hx]; exact q)
   rw [hx] at hr
   have hle := h.le
   have hs := su_upd (F := dst G.N D s) (n := G.N + 1) (a := G.ext.hd e) (x := x) hh.1
   have hs2 : su (dst G.N D' s') (G.N + 1) = su (upd (dst G.N D s) (G.ext.hd e) x) (G.N + 1) := su_congr fun v hv => h1 q v hv
   refine ⟨hl, ⟨_, Pw_congr hop (h1 q) hr⟩, fun z => ?_, fun _ => by omega⟩
   rw [decide_eq_true q] at z; cases z
 · obtain ⟨rfl, rfl⟩ := h2 q
   rw [decide_eq_false q, Bool.false_or]
   refine ⟨h.len, h.pw, fun z => ⟨(h.no z).1, fun e' he' hq => ?_⟩, h.yes⟩
   rcases hq with hq | rfl
   · exact (h.no z).2 e' he' hq
   · rw [hx]; omega
theorem ext_arc {G : Nw} {k : Nat} (hk : k < G.K) (b : Bool) : G.ext.hd (k, b) = G.hd (k, b) ∧ G.ext.tl (k, b) = G.tl (k, b) ∧ G.ext.cc (k, b) = G.cc (k, b) := by
 have e1 : G.ext.fr k = G.fr k := if_pos hk
 have e2 : G.ext.to k = G.to k := if_pos hk
 have e3 : G.ext.c k = G.c k := if_pos hk
 cases b
 · exact ⟨e2, e1, e3⟩
 · exact ⟨e1, e2, congrArg Neg.neg e3⟩
theorem ext_in {G : Nw} (i : Nat) (b : Bool) : G.ext.hd (G.K + i, b) = (if b = true then G.N else i) ∧ G.ext.tl (G.K + i, b) = (if b = true then i else G.N) ∧ G.ext.cc (G.K + i, b) = 0 := by
 have e1 : G.ext.fr (G.K + i) = G.N := if_neg (by omega)
 have e2 : G.ext.to (G.K + i) = i := by show (if G.K + i < G.K then G.to (G.K + i) else G.K + i - G.K) = i; rw [if_neg (by omega)]; omega
 have e3 : G.ext.c (G.K + i) = 0 := if_neg (by omega)
 cases b
 · exact ⟨e2, e1, e3⟩
 · exact ⟨e1, e2, by show - G.ext.c (G.K + i) = 0; rw [e3]; rfl⟩
theorem RelI.arc {G : Nw} (hG : G.Ok) {R : Nat × Bool → Prop} {p : Nat → Int} {P : Int} {D0 D : List Int} {s0 s : Int} {ch : Bool} {Q : Nat × Bool → Prop} (h : RelI G R p P D0 s0 D s ch Q) (hE : G.ext.Ok) (hp : G.ext.Op R p) {k : Nat} (hk : k < G.K) {b : Bool} (he : R (k, b)) {u w : Nat} (hu : G.tl (k, b) = u) (hw : G.hd (k, b) = w) {x : Int} (hx : D.getD u 0 + G.cc (k, b) = x) :
 RelI G R p P D0 s0 (lwr D w x) s (decide (x < D.getD w 0) || ch) (fun e' => Q e' ∨ e' = (k, b)) := by
 obtain ⟨e1, e2, e3⟩ := ext_arc hk b
 obtain ⟨b1, b2⟩ := Nw.hd_lt hG (e := (k, b)) hk
 have d1 : dst G.N D s (G.ext.hd (k, b)) = D.getD w 0 := by rw [e1, hw]; unfold dst; rw [if_pos (by omega)]; rfl
 have d2 : dst G.N D s (G.ext.tl (k, b)) = D.getD u 0 := by rw [e2, hu]; unfold dst; rw [if_pos (by omega)]; rfl
 rw [← d1]
 refine h.edge hE hp he (by rw [d2, e3]; exact hx) (by rw [lwr_len]; exact h.len) (fun q v _ => ?_) (fun q => ?_)
 · rw [d1] at q
   unfold lwr
   rw [if_pos q, dst_set (by omega) h.len, e1, hw]
 · rw [d1] at q
   unfold lwr
   rw [if_neg q]; exact ⟨rfl, rfl⟩
theorem RelI.inn {G : Nw} {R : Nat × Bool → Prop} {p : Nat → Int} {P : Int} {D0 D : List Int} {s0 s : Int} {ch : Bool} {Q : Nat × Bool → Prop} (h : RelI G R p P D0 s0 D s ch Q) (hE : G.ext.Ok) (hp : G.ext.Op R p) {i : Nat} (hi : i < G.N) (he : R (G.K + i, false)) :
 RelI G R p P D0 s0 (lwr D i s) s (decide (s < D.getD i 0) || ch) (fun e' => Q e' ∨ e' = (G.K + i, false)) := by
 obtain ⟨e1, e2, e3⟩ := ext_in (G := G) i false
 have e1 : G.ext.hd (G.K + i, false) = i := e1
 have e2 : G.ext.tl (G.K + i, false) = G.N := e2
 have d1 : dst G.N D s (G.ext.hd (G.K + i, false)) = D.getD i 0 := by rw [e1]; unfold dst; rw [if_pos hi]; rfl
 have d2 : dst G.N D s (G.ext.tl (G.K + i, false)) = s := by rw [e2]; unfold dst; rw [if_neg (Nat.lt_irrefl _)]
 rw [← d1]
 refine h.edge hE hp he (by rw [d2, e3, Int.add_zero]) (by rw [lwr_len]; exact h.len) (fun q v _ => ?_) (fun q => ?_)
 · rw [d1] at q
   unfold lwr
   rw [if_pos q, dst_set hi h.len, e1]
 · rw [d1] at q
   unfold lwr
   rw [if_neg q]; exact ⟨rfl, rfl⟩
theorem RelI.out {G : Nw} {R : Nat × Bool → Prop} {p : Nat → Int} {P : Int} {D0 D : List Int} {s0 s : Int} {ch : Bool} {Q : Nat × Bool → Prop} (h : RelI G R p P D0 s0 D s ch Q) (hE : G.ext.Ok) (hp : G.ext.Op R p) {i : Nat} (hi : i < G.N) (he : R (G.K + i, true)) :
 RelI G R p P D0 s0 D (if D.getD i 0 < s then D.getD i 0 else s) (decide (D.getD i 0 < s) || ch) (fun e' => Q e' ∨ e' = (G.K + i, true)) := by
 obtain ⟨e1, e2, e3⟩ := ext_in (G := G) i true
 have e1 : G.ext.hd (G.K + i, true) = G.N := e1
 have e2 : G.ext.tl (G.K + i, true) = i := e2
 have d1 : dst G.N D s (G.ext.hd (G.K + i, true)) = s := by rw [e1]; unfold dst; rw [if_neg (Nat.lt_irrefl _)]
 have d2 : dst G.N D s (G.ext.tl (G.K + i, true)) = D.getD i 0 := by rw [e2]; unfold dst; rw [if_pos hi]; rfl
 have key := h.edge hE hp he (x := D.getD i 0) (by rw [d2, e3, Int.add_zero]) (D' := D) (s' := if D.getD i 0 < s then D.getD i 0 else s) h.len (fun q v hv => ?_) (fun q => ?_)
 · rw [d1] at key; exact key
 · rw [d1] at q
   rw [if_pos q, e1]
   exact dst_store hv
 · rw [d1] at q
   rw [if_neg q]; exact ⟨rfl, rfl⟩
theorem RelI.bd {G : Nw} {R : Nat × Bool → Prop} {p : Nat → Int} {P C : Int} {D0 D : List Int} {s0 s : Int} {ch : Bool} {Q : Nat × Bool → Prop} (h : RelI G R p P D0 s0 D s ch Q) (hE : G.ext.Ok) (hp : G.ext.Op R p) (hC : 0 ≤ C) (hc : ∀ e, R e → - C ≤ G.ext.cc e) : (∀ v, v < G.N → - (C * G.N) ≤ D.getD v 0 ∧ D.getD v 0 ≤ 0) ∧ - (C * G.N) ≤ s ∧ s ≤ 0 := by
 obtain ⟨b, hb⟩ := h.pw
 have key : ∀ v, v < G.N + 1 → - (C * G.N) ≤ dst G.N D s v ∧ dst G.N D s v ≤ 0 := fun v hv => by
  have := hb.bd hE hC hp hc (v := v) hv
  have e : ((G.ext.N : Int) - 1) = G.N := by show (((G.N + 1 : Nat) : Int) - 1) = G.N; omega
  rw [e] at this; exact this
 refine ⟨fun v hv => ?_, ?_⟩
 · have := key v (by omega)
   unfold dst at this; rw [if_pos hv] at this; exact this
 · have := key G.N (by omega)
   unfold dst at this; rw [if_neg (Nat.lt_irrefl _)] at this; exact this
def gonF (G : Nw) (f : Nat → Int) (k v : Nat) : Int := su (fun j => if G.fr j = v then f j else 0) k
theorem gonF_succ (G : Nw) (f : Nat → Int) (k v : Nat) : gonF G f (k + 1) v = gonF G f k v + (if G.fr k = v then f k else 0) := rfl
theorem gonF_mono {G : Nw} {f : Nat → Int} {K : Nat} (h0 : ∀ k, k < K → 0 ≤ f k) (v : Nat) : ∀ {k}, k ≤ K → 0 ≤ gonF G f k v ∧ gonF G f k v ≤ gonF G f K v := by
 have nn : ∀ {k}, k ≤ K → 0 ≤ gonF G f k v := fun {k} hk => su_nn fun j hj => by
  have := h0 j (by omega)
  split <;> omega
 intro k hk
 refine ⟨nn hk, ?_⟩
 obtain ⟨d, rfl⟩ : ∃ d, K = k + d := ⟨K - k, by omega⟩
 clear nn hk
 induction d with
 | zero => exact Int.le_refl _
 | succ d ih =>
   have h1 := ih (fun j hj => h0 j (by omega))
   have h2 := h0 (k + d) (by omega)
   have h3 := gonF_succ G f (k + d) v
   have : gonF G f (k + (d + 1)) v = gonF G f (k + d) v + (if G.fr (k + d) = v then f (k + d) else 0) := h3
   rw [this]
   split <;> omega
theorem gonF_all {G : Nw} {B : Nat → Bool} (hb : G.Bip B) {h w f left : Nat → Int} (hs : G.St h w f left (fun _ => 0)) (hw : ∀ v, v < G.N → B v = true → w v = 0) {v : Nat} (hv : v < G.N) (hB : B v = true) : gonF G f G.K v = h v - left v := by
 have h1 := hs.net v hv
 rw [hw v hv hB] at h1
 have e : G.net f v = gonF G f G.K v := su_congr fun k hk => by
  have := hb.to k hk
  have hne : ¬ G.to k = v := fun q => by rw [q, hB] at this; exact absurd this.2 (by simp)
  rw [if_neg hne]; omega
 rw [e] at h1; omega
theorem gonF_none {G : Nw} {B : Nat → Bool} (hb : G.Bip B) {f : Nat → Int} {v : Nat} (hB : B v = false) : gonF G f G.K v = 0 := su_zero fun k hk => by
 have := hb.fr k hk
 rw [if_neg]
 intro q; rw [q, hB] at this; exact absurd this.2 (by simp)
structure Pri where
 st : List UInt8
 cents : Int
def prF : Pri → List DV := fun x => [.str x.st, .int .i64 x.cents]
def pr00 : Pri := ⟨[], 0⟩
abbrev pris (l : List Pri) : DV := seqD 2 prF pr00 l
def priL (n : List Ned) (y : Nat → Int) (i : Nat) : List Pri := (List.range i).map fun j => ⟨(n.getD j nd0).st, if (n.getD j nd0).many ≠ 0 then y j else 0⟩
theorem priL_succ (n : List Ned) (y : Nat → Int) (i : Nat) : priL n y (i + 1) = priL n y i ++ [⟨(n.getD i nd0).st, if (n.getD i nd0).many ≠ 0 then y i else 0⟩] := by
 unfold priL; rw [List.range_succ, List.map_append]; rfl
theorem priL_len (n : List Ned) (y : Nat → Int) (i : Nat) : (priL n y i).length = i := by unfold priL; rw [List.length_map, List.length_range]
def PriceR (n : List Ned) (r : List Roa) (l : List Pri) (e : Int) : Prop :=
 (firstE [ndsE n, rdsE r] ≠ 0 ∧ e = firstE [ndsE n, rdsE r] ∧ l = []) ∨ ((ndsE n = 0 ∧ rdsE r = 0) ∧ ((∀ g, ¬ (nwG n r).Fl (kindB n) (getI (havL n)) (getI (wntL n)) g) ∧ e = 12 ∧ l = [] ∨
   (∃ f left y, (nwG n r).St (getI (havL n)) (getI (wntL n)) f left (fun _ => 0) ∧ (nwG n r).IsOpt (kindB n) (getI (havL n)) (getI (wntL n)) ((nwG n r).cost f) ∧ (nwG n r).Prc (getI (havL n)) f (gonF (nwG n r) f (nwG n r).K) y ∧ (∀ v, v < n.length → -10000000 ≤ y v ∧ y v ≤ 10000000) ∧ l = priL n y n.length) ∧ e = 0))
def oWPgB15_8 : List (Nat × List Nat) := [(0, []), (1, []), (2, []), (3, [0, 1, 2]), (4, [0, 1, 2]), (5, [])]
def oWPgB15_17 : List (Nat × List Nat) := [(0, []), (1, [0]), (2, [0]), (3, []), (4, []), (5, [0, 1, 2, 3, 4]), (6, [0, 1, 2, 3, 4]), (7, []), (8, []), (9, [])]
def oWPgB15_18 : List (Nat × List Nat) := [(0, []), (1, [0]), (2, [0, 1]), (3, [0, 1]), (4, [0]), (5, [0, 1, 2, 3, 4]), (6, [0, 1, 2, 3, 4, 5]), (7, [0, 1, 2, 3, 4, 5]), (8, [0, 1, 2, 3, 4]), (9, [0, 1, 2, 3, 4]), (10, [0, 1, 2, 3, 4, 5, 6, 7, 8, 9]), (11, [0, 1, 2, 3, 4, 5, 6, 7, 8, 9]), (12, [0, 1, 2, 3, 4]), (13, []), (14, []), (15, []), (16, []), (17, [])]
def oWPgB15_20 : List (Nat × List Nat) := [(0, []), (1, [0]), (2, [0, 1]), (3, [0, 1]), (4, [0]), (5, [0, 1, 2, 3, 4]), (6, [0, 1, 2, 3, 4, 5]), (7, [0, 1, 2, 3, 4, 5]), (8, [0, 1, 2, 3, 4]), (9, [0, 1, 2, 3, 4]), (10, [0, 1, 2, 3, 4, 5, 6, 7, 8, 9]), (11, [0, 1, 2, 3, 4, 5, 6, 7, 8, 9]), (12, [0, 1, 2, 3, 4]), (13, []), (14, []), (15, []), (16, []), (17, [])]
def oWPgB15_26 : List (Nat × List Nat) := [(0, []), (1, [0]), (2, []), (3, []), (4, [0, 1, 2, 3]), (5, [0, 1, 2, 3]), (6, [0, 1, 2, 3]), (7, [0, 1, 2, 3]), (8, [0, 1, 2, 3, 4, 5, 6, 7]), (9, [0, 1, 2, 3]), (10, [0, 1, 2, 3]), (11, [])]
def oWPgB15_27 : List (Nat × List Nat) := [(0, []), (1, [0]), (2, [0, 1]), (3, [0]), (4, [0, 1, 2, 3]), (5, []), (6, []), (7, []), (8, []), (9, [])]
def oWPgB15_37 : List (Nat × List Nat) := [(0, []), (1, [0]), (2, []), (3, []), (4, [0, 1, 2, 3]), (5, []), (6, []), (7, [])]
structure PrvI (n : List Ned) (r : List Roa) (C : List Arc) (left p : Nat → Int) : Prop where
 sm : Sm (arcs n r) C
 st : (nwG n r).St (getI (havL n)) (getI (wntL n)) (floA C) left (fun _ => 0)
 pt : (nwG n r).Pot (getI (havL n)) (floA C) left p
abbrev gonG (n : List Ned) (r : List Roa) (C : List Arc) : Nat → Int := gonF (nwG n r) (floA C) (nwG n r).K
abbrev opnG (n : List Ned) (r : List Roa) (C : List Arc) : Nat × Bool → Prop := (nwG n r).opn (getI (havL n)) (floA C) (gonG n r C)
abbrev potG (n : List Ned) (r : List Roa) (p : Nat → Int) (v : Nat) : Int := if v < (nwG n r).N then p v else 0
theorem PrvI.gon {n : List Ned} {r : List Roa} {C : List Arc} {left p : Nat → Int} (h : PrvI n r C left p) (hn : ndsE n = 0) {v : Nat} (hv : v < n.length) : (kindB n v = true → gonG n r C v = getI (havL n) v - left v) ∧ 0 ≤ gonG n r C v ∧ gonG n r C v ≤ 20 := by
 have hB := nwG_bip n r
 have h1 := fun hk => gonF_all hB h.st (fun v hv hk => by rw [getI_wnt hv]; have := kindB_get.2 hk; unfold wntF; omega) hv hk
 refine ⟨h1, ?_⟩
 cases hk : kindB n v with
 | true =>
   have h2 := h1 hk
   have h3 := h.st.left0 v hv
   have h4 := (havF_bd hn v).1
   rw [getI_hav hv] at h2 h3
   show 0 ≤ gonF _ _ _ _ ∧ gonF _ _ _ _ ≤ 20
   omega
 | false =>
   have := gonF_none (G := nwG n r) (f := floA C) hB hk
   show 0 ≤ gonF _ _ _ _ ∧ gonF _ _ _ _ ≤ 20
   omega
theorem PrvI.op {n : List Ned} {r : List Roa} {C : List Arc} {left p : Nat → Int} (h : PrvI n r C left p) (hn : ndsE n = 0) (hr : rdsE r = 0) : (nwG n r).ext.Op (opnG n r C) (potG n r p) := by
 refine Nw.ext_op (nwG_ok (n := n) hr).1 h.pt fun v hv h0 => ?_
 refine (h.gon hn hv).1 ?_
 cases hk : kindB n v with
 | true => rfl
 | false =>
   rw [getI_hav hv] at h0
   have := kindB_get.1 hk
   unfold havF at h0; omega
theorem opn_cc {n : List Ned} {r : List Roa} {C : List Arc} (hr : rdsE r = 0) : ∀ e, opnG n r C e → -1000000 ≤ (nwG n r).ext.cc e := by
 rintro ⟨k, b⟩ ⟨h1, _, _⟩
 by_cases hk : k < (nwG n r).K
 · rw [(ext_arc hk b).2.2]
   have h2 := (nwG_ok (n := n) hr).1.c0 k hk
   have h3 := (nwG_ok (n := n) hr).2 k hk
   cases b
   · show -1000000 ≤ (nwG n r).c k; omega
   · show -1000000 ≤ - (nwG n r).c k; omega
 · obtain ⟨i, rfl⟩ : ∃ i, k = (nwG n r).K + i := ⟨k - (nwG n r).K, by omega⟩
   rw [(ext_in i b).2.2]; omega
abbrev RelG (n : List Ned) (r : List Roa) (C : List Arc) (p : Nat → Int) (D0 : List Int) (s0 : Int) (D : List Int) (s : Int) (ch : Bool) (Q : Nat × Bool → Prop) : Prop := RelI (nwG n r) (opnG n r C) (potG n r p) (su (potG n r p) ((nwG n r).N + 1)) D0 s0 D s ch Q
theorem RelG.b {n : List Ned} {r : List Roa} {C : List Arc} {left p : Nat → Int} (hI : PrvI n r C left p) (hn : ndsE n = 0) (hr : rdsE r = 0) {D0 D : List Int} {s0 s : Int} {ch : Bool} {Q : Nat × Bool → Prop} (h : RelG n r C p D0 s0 D s ch Q) : D.length = n.length ∧ (∀ v, v < n.length → -10000000 ≤ D.getD v 0 ∧ D.getD v 0 ≤ 0) ∧ -10000000 ≤ s ∧ s ≤ 0 := by
 have hl := (nds_all hn).1
 obtain ⟨h1, h2⟩ := h.bd (C := 1000000) (Nw.ext_ok (nwG_ok (n := n) hr).1) (hI.op hn hr) (by omega) (opn_cc hr)
 have hN : ((nwG n r).N : Int) = n.length := rfl
 refine ⟨h.len, fun v hv => ?_, by omega, by omega⟩
 have := h1 v hv
 omega
theorem RelG.low {n : List Ned} {r : List Roa} {C : List Arc} {left p : Nat → Int} (hI : PrvI n r C left p) (hn : ndsE n = 0) (hr : rdsE r = 0) {D0 D : List Int} {s0 s : Int} {ch : Bool} {Q : Nat × Bool → Prop} (h : RelG n r C p D0 s0 D s ch Q) : -200000000 ≤ su (dst (nwG n r).N D s) ((nwG n r).N + 1) := by
 have hl := (nds_all hn).1
 obtain ⟨_, h1, h2⟩ := h.b hI hn hr
 have : ∀ m, m ≤ (nwG n r).N + 1 → -10000000 * (m : Int) ≤ su (dst (nwG n r).N D s) m := by
  intro m
  induction m with
  | zero => intro _; exact Int.le_refl _
  | succ m ih =>
    intro hm
    have := ih (by omega)
    have h3 : -10000000 ≤ dst (nwG n r).N D s m := by
     unfold dst; split
     · rename_i q; exact (h1 m q).1
     · omega
    rw [su]; omega
 have h3 := this ((nwG n r).N + 1) (Nat.le_refl _)
 have hN : (nwG n r).N = n.length := rfl
 omega
theorem le_su {F : Nat → Int} {n a : Nat} (h : ∀ k, k < n → 0 ≤ F k) (ha : a < n) : F a ≤ su F n := by
 have h1 := su_le (F := fun v => if a = v then F a else 0) (H := F) (n := n) (fun k hk => by
  have := h k hk
  show (if a = k then F a else 0) ≤ F k
  split
  · rename_i q; rw [q]; exact Int.le_refl _
  · exact this)
 rw [su_one ha] at h1; exact h1
theorem relG_init {n : List Ned} {r : List Roa} {C : List Arc} {left p : Nat → Int} (hI : PrvI n r C left p) (hn : ndsE n = 0) (hr : rdsE r = 0) : RelG n r C p (List.replicate n.length 0) 0 (List.replicate n.length 0) 0 false (fun _ => true = false) := by
 have hp := hI.op hn hr
 have hE := Nw.ext_ok (nwG_ok (n := n) hr).1
 have h0 : ∀ v, v < (nwG n r).N + 1 → 0 ≤ potG n r p v := fun v _ => by
  show 0 ≤ (if v < (nwG n r).N then p v else 0)
  split
  · rename_i q; exact hI.pt.p0 v q
  · omega
 refine ⟨List.length_replicate, ⟨fun _ => none, Pw_congr (fun e he => Nw.hd_lt hE (hp.lt e he)) (fun v hv => ?_) (Nw.pw_init fun v hv => le_su h0 hv)⟩, fun _ => ⟨⟨rfl, rfl⟩, fun e _ q => by cases q⟩, fun q => by cases q⟩
 unfold dst
 split
 · rename_i q
   have q : v < n.length := q
   show (List.replicate n.length (0 : Int)).getD v 0 = 0
   rw [List.getD_eq_getElem?_getD, List.getElem?_replicate, if_pos q]; rfl
 · rfl
theorem PrvI.arc {n : List Ned} {r : List Roa} {C : List Arc} {left p : Nat → Int} (h : PrvI n r C left p) (hn : ndsE n = 0) (hr : rdsE r = 0) {k : Nat} (hk : k < C.length) :
 ((C.getD k ar0).fr = ((nwG n r).fr k : Nat) ∧ (C.getD k ar0).to = ((nwG n r).to k : Nat) ∧ (C.getD k ar0).car = (nwG n r).c k) ∧ ((nwG n r).fr k < n.length ∧ (nwG n r).to k < n.length) ∧ (0 ≤ (C.getD k ar0).car ∧ (C.getD k ar0).car ≤ 1000000) ∧ (0 ≤ (C.getD k ar0).flow ∧ (C.getD k ar0).flow ≤ 20) ∧ k < (nwG n r).K := by
 have hlen : (arcs n r).length = (arL n r).length := List.length_map _
 have hk2 : k < (nwG n r).K := by show k < (arL n r).length; have := h.sm.len; omega
 have h1 := h.sm.fld k
 rw [arcs_get] at h1
 have hm := arL_mem (nwG_at hk2)
 have hc := nwG_ok (n := n) hr
 have h0 := h.st.f0 k hk2
 have hg := (h.gon hn hm.1.1).2.2
 have hm2 := gonF_mono (G := nwG n r) (f := floA C) h.st.f0 ((nwG n r).fr k) (k := k + 1) (by omega)
 have hm3 := gonF_mono (G := nwG n r) (f := floA C) h.st.f0 ((nwG n r).fr k) (k := k) (by omega)
 rw [gonF_succ, if_pos rfl] at hm2
 have hg : gonF (nwG n r) (floA C) (nwG n r).K ((nwG n r).fr k) ≤ 20 := hg
 have h0 : 0 ≤ floA C k := h0
 have c1 := hc.1.c0 k hk2
 have c2 := hc.2 k hk2
 have e3 : (C.getD k ar0).car = (nwG n r).c k := h1.2.2
 have e4 : (C.getD k ar0).flow = floA C k := rfl
 exact ⟨⟨h1.1, h1.2.1, e3⟩, ⟨hm.1.1, hm.2.1.1⟩, by omega, by omega, hk2⟩
abbrev prvS (n : List Ned) (C : List Arc) (D : List Int) (s : Int) : List (Nat × Res) := [(24, tpV (havL n) (wntL n) C), (10, .cells 3 [.d (.int .i64 s)]), (40, seqB 3 1 iF 0 D)]
set_option maxHeartbeats 16000000 in
theorem p22 (n : List Ned) (r : List Roa) (hn : ndOk n) (hr : rdOk r) : FSpec Tryd.prog 15 [.d (neds n), .d (roas r)] []
 (fun y q => (∃ l e, y = .tup [.d (pris l), .d (.int .i64 e)] ∧ PriceR n r l e) ∧ q = []) := by
 obtain ⟨E0, hE0⟩ : ∃ e, firstE [ndsE n, rdsE r] = e := ⟨_, rfl⟩
 have s113' := s113 n r hn hr
 rw [hE0] at s113'
 refine spec_of hT (C := []) Tryd.func15 rfl Tryd.call15 rfl rfl rfl ?_
 conv => whnf
 by_cases h0 : firstE [ndsE n, rdsE r] = 0
 · obtain ⟨hn0, hr0⟩ := firstE_two h0
   have hA := arcs_ok hn0 hr0
   have hnl := (nds_all hn0).1
   have hGo := (nwG_ok (n := n) hr0).1
   have hGe := Nw.ext_ok hGo
   repeat' (first | (refine CallX.exact (s113') rfl rfl ?_; rotate_right; conv => whnf) | (refine CallX.of (p59 n r hn0 hr0) [(20, 24), (15, 1000), (18, 1001), (500, 1002)] rfl ⟨lr, lr, trivial⟩ trivial rfl rfl ?_; rintro x rout ⟨rfl, rfl⟩; refine ⟨rfl, ?_⟩; conv => whnf) | (refine CallX.of (p60 (havL n) (wntL n) (arcs n r) (by rw [show (havL n).length = n.length from fillA_length]; exact hA) (by rw [show (havL n).length = n.length from fillA_length]; omega) (by rw [show (havL n).length = n.length from fillA_length]; exact fillA_length) (fun v hv => by rw [getI_hav (by rw [← (show (havL n).length = n.length from fillA_length)]; exact hv)]; have := (havF_bd hn0 v).1; omega) (fun v hv => by rw [getI_wnt (by rw [← (show (havL n).length = n.length from fillA_length)]; exact hv)]; have := (havF_bd hn0 v).2; omega)) [(1000000, 24), (1000001, 1000), (1000002, 1001), (1000003, 1002)] rfl ⟨lr, trivial⟩ ⟨rr, rr, rr, rr, trivial⟩ rfl rfl ?_; rintro x rout ⟨C, ⟨hS0, hR0⟩, rfl⟩; rw [show (havL n).length = n.length from fillA_length, nwA_arcs] at hR0; (rcases hR0 with ⟨left, p, hst, hpt, hcb, rfl⟩ | ⟨hno, c, rfl⟩) <;> (refine ⟨rfl, ?_⟩ <;> (conv => whnf)); conv => whnf) | (refine br_intro ?_ ?_ <;> intro hb <;> (try simp only [brs] at hb) <;> conv => whnf) | (refine RegX.rule (id := 8) hT rfl [] oWPgB15_8 (by decide +kernel) ?_; conv => whnf) | (refine RegX.rule (id := 17) hT rfl [] oWPgB15_17 (by decide +kernel) ?_; conv => whnf) | (refine RegX.rule (id := 18) hT rfl [] oWPgB15_18 (by decide +kernel) ?_; conv => whnf) | (refine RegX.rule (id := 20) hT rfl [] oWPgB15_20 (by decide +kernel) ?_; conv => whnf) | (refine RegX.rule (id := 26) hT rfl [] oWPgB15_26 (by decide +kernel) ?_; conv => whnf) | (refine RegX.rule (id := 27) hT rfl [] oWPgB15_27 (by decide +kernel) ?_; conv => whnf) | (refine RegX.rule (id := 37) hT rfl [] oWPgB15_37 (by decide +kernel) ?_; conv => whnf) | omega | (refine And.intro ?_ ?_; ((try dsimp only); first | omega | (refine szA rfl ?_; omega) | (refine szB rfl ?_; omega) | (unfold inI64; omega) | exact rfl | (simp only [lns] at *; omega) | decide | (unfold inI64; decide)); conv => whnf) | decide | assumption)
   · have hI : PrvI n r C left p := ⟨hS0, hst, hpt⟩
     refine LoopX.freeze 1002 72 4 _ _ rfl ?_
     refine LoopX.rule hT (C := []) (ι := List Int × Int × Bool) (fun (D, s, ch) => RelG n r C p D s D s false (fun e => ch = false)) (fun (D, s, ch) => mkSt [(0, .d (neds n)), (7, .ptr 24 0), (10, .ptr 10 0), (11, .buf 40), (12, .fn 32 []), (13, .d (.bool ch))] (prvS n C D s)) (fun (D, s, ch) => 2 * (su (dst (nwG n r).N D s) ((nwG n r).N + 1) + 200000000).toNat + (if ch = true then 1 else 0)) (List.replicate n.length 0, 0, true) (relG_init hI hn0 hr0) ?_ ?_
     · refine (Entails.froCell 24 1000 1 _ 0 _ rfl rfl rfl).trans ?_
       refine (Entails.froCell 24 1001 1 _ 1 _ rfl rfl rfl).trans ?_
       refine (Entails.froCell 24 1002 4 _ 2 _ rfl rfl rfl).trans ?_
       refine Entails.mk' [(24, 24), (10, 10), (40, 40)] rfl rfl ⟨lr, lr, lr, lr, lr, lr, trivial⟩ ⟨rr, rr, ?_, trivial⟩
       exact Res.le_buf (by rw [List.length_replicate]; exact Int.toNat_natCast _) (fun i hi => by
        have hi : i < n.length := by simpa using hi
        show _ = iF ((List.replicate n.length 0).getD i 0)
        rw [List.getD_eq_getElem?_getD, List.getElem?_replicate, if_pos hi]; rfl)
     rintro ⟨D0, s0, ch0⟩ hR
     have hR : RelG n r C p D0 s0 D0 s0 false (fun _ => ch0 = false) := hR
     have hb0 := hR.b hI hn0 hr0
     have hCl : C.length = (arcs n r).length := hI.sm.len
     have hAl := arcs_ok hn0 hr0
     have hAll := hAl.len
     cases ch0 with
     | false =>
       obtain ⟨y, hy⟩ : ∃ y : Nat → Int, y = fun v => D0.getD v 0 - s0 := ⟨_, rfl⟩
       have hPrc : (nwG n r).Prc (getI (havL n)) (floA C) (gonG n r C) (fun v => dst (nwG n r).N D0 s0 v - dst (nwG n r).N D0 s0 (nwG n r).N) := Nw.ext_prc hGo fun e he => (hR.no rfl).2 e he rfl
       have hye : ∀ v, v < n.length → dst (nwG n r).N D0 s0 v - dst (nwG n r).N D0 s0 (nwG n r).N = y v := fun v hv => by
        have hv : v < (nwG n r).N := hv
        rw [hy]
        unfold dst
        rw [if_pos hv, if_neg (Nat.lt_irrefl _)]; rfl
       have hPy : (nwG n r).Prc (getI (havL n)) (floA C) (gonG n r C) y := by
        have hto := fun k hk => hGo.to k hk
        have hfr := fun k hk => hGo.fr k hk
        refine ⟨fun k hk => ?_, fun k hk hf => ?_, fun v hv h1 h2 => ?_, fun v hv h1 h2 => ?_⟩
        · have := hPrc.ar k hk
          rw [← hye _ (hto k hk), ← hye _ (hfr k hk)]; exact this
        · have := hPrc.tight k hk hf
          rw [← hye _ (hto k hk), ← hye _ (hfr k hk)]; exact this
        · rw [← hye _ hv]; exact hPrc.lo v hv h1 h2
        · rw [← hye _ hv]; exact hPrc.hi v hv h1 h2
       have hyb : ∀ v, v < n.length → -10000000 ≤ y v ∧ y v ≤ 10000000 := fun v hv => by
        have := hb0.2.1 v hv
        rw [hy]; show -10000000 ≤ D0.getD v 0 - s0 ∧ D0.getD v 0 - s0 ≤ 10000000; omega
       have hOpt : (nwG n r).IsOpt (kindB n) (getI (havL n)) (getI (wntL n)) ((nwG n r).cost (floA C)) := by
        obtain ⟨o1, o2⟩ := Nw.opt hGo hst hpt (fun _ _ => rfl)
        have hfl := Nw.Bip.fl (nwG_bip n r) (h := getI (havL n)) (w := getI (wntL n)) (fun v hv hk => by rw [getI_hav hv]; have := kindB_get.1 hk; unfold havF; omega) (fun v hv hk => by rw [getI_wnt hv]; have := kindB_get.2 hk; unfold wntF; omega)
        exact ⟨⟨floA C, (hfl _).1 o1, rfl⟩, fun g hg => o2 g ((hfl g).2 hg)⟩
       have hD0l := hb0.1
       conv => whnf
       repeat' (first | (refine br_intro ?_ ?_ <;> intro hb <;> (try simp only [brs] at hb) <;> conv => whnf) | (refine RegX.rule (id := 8) hT rfl [] oWPgB15_8 (by decide +kernel) ?_; conv => whnf) | (refine RegX.rule (id := 17) hT rfl [] oWPgB15_17 (by decide +kernel) ?_; conv => whnf) | (refine RegX.rule (id := 18) hT rfl [] oWPgB15_18 (by decide +kernel) ?_; conv => whnf) | (refine RegX.rule (id := 20) hT rfl [] oWPgB15_20 (by decide +kernel) ?_; conv => whnf) | (refine RegX.rule (id := 26) hT rfl [] oWPgB15_26 (by decide +kernel) ?_; conv => whnf) | (refine RegX.rule (id := 27) hT rfl [] oWPgB15_27 (by decide +kernel) ?_; conv => whnf) | (refine RegX.rule (id := 37) hT rfl [] oWPgB15_37 (by decide +kernel) ?_; conv => whnf) | omega | (refine And.intro ?_ ?_; ((try dsimp only); first | omega | (refine szA rfl ?_; omega) | (refine szB rfl ?_; omega) | (unfold inI64; omega) | exact rfl | (simp only [lns] at *; omega) | decide | (unfold inI64; decide)); conv => whnf) | decide | assumption)
       all_goals try (exfalso; omega)
       refine LoopX.rule hT (C := []) (ι := Nat) (fun i => i ≤ n.length) (fun i => mkSt [(10, .ptr 10 0), (11, .buf 40), (18, .buf 603), (150, .d (neds n)), (151, .d (.int .i64 n.length)), (152, .d (.int .i64 i))] [(10, .cells 3 [.d (.int .i64 s0)]), (40, seqB 3 1 iF 0 D0), (603, seqB 87 2 prF pr00 (priL n y i))]) (fun i => n.length - i) 0 (by show 0 ≤ _; omega) ?_ ?_
       · refine (Entails.nil 18 603 87 2 (rowF prF pr00 []) rfl rfl (by decide)).trans ?_
         exact Entails.mk' [(10, 10), (40, 40), (603, 603)] rfl rfl ⟨lr, lr, lr, lr, lr, lr, trivial⟩ ⟨rr, rr, rr, trivial⟩
       rintro i hi
       have hi : i ≤ n.length := hi
       have e1 : (i : Int).toNat = i := Int.toNat_natCast i
       have hpl := priL_len n y i
       rcases Nat.lt_or_ge i n.length with hin | hin
       · have hbi := hb0.2.1 i hin
         rw [← e1] at hbi
         conv => whnf
         repeat' (first | (refine br_intro ?_ ?_ <;> intro hb <;> (try simp only [brs] at hb) <;> conv => whnf) | (refine RegX.rule (id := 8) hT rfl [] oWPgB15_8 (by decide +kernel) ?_; conv => whnf) | (refine RegX.rule (id := 17) hT rfl [] oWPgB15_17 (by decide +kernel) ?_; conv => whnf) | (refine RegX.rule (id := 18) hT rfl [] oWPgB15_18 (by decide +kernel) ?_; conv => whnf) | (refine RegX.rule (id := 20) hT rfl [] oWPgB15_20 (by decide +kernel) ?_; conv => whnf) | (refine RegX.rule (id := 26) hT rfl [] oWPgB15_26 (by decide +kernel) ?_; conv => whnf) | (refine RegX.rule (id := 27) hT rfl [] oWPgB15_27 (by decide +kernel) ?_; conv => whnf) | (refine RegX.rule (id := 37) hT rfl [] oWPgB15_37 (by decide +kernel) ?_; conv => whnf) | omega | (refine And.intro ?_ ?_; ((try dsimp only); first | omega | (refine szA rfl ?_; omega) | (refine szB rfl ?_; omega) | (unfold inI64; omega) | exact rfl | (simp only [lns] at *; omega) | decide | (unfold inI64; decide)); conv => whnf) | decide | assumption)
         all_goals try (exfalso; omega)
         · refine ⟨i + 1, hin, by show n.length - (i + 1) < n.length - i; omega, Entails.mk' [(10, 10), (40, 40), (603, 173)] rfl rfl ⟨lr, lr, lr, lr, lr, lr, trivial⟩ ⟨rr, rr, ?_, trivial⟩⟩
           show Res.le _ (seqB 87 2 prF pr00 (priL n y (i + 1)))
           rw [priL_succ, if_pos hb]
           refine Res.le_snocF ?_
           rw [hy]; rfl
         · refine ⟨i + 1, hin, by show n.length - (i + 1) < n.length - i; omega, Entails.mk' [(10, 10), (40, 40), (603, 173)] rfl rfl ⟨lr, lr, lr, lr, lr, lr, trivial⟩ ⟨rr, rr, ?_, trivial⟩⟩
           show Res.le _ (seqB 87 2 prF pr00 (priL n y (i + 1)))
           rw [priL_succ, if_neg (by simpa using hb)]
           exact Res.le_snocF rfl
       · have hin : i = n.length := by omega
         rw [hin]
         conv => whnf
         repeat' (first | (refine br_intro ?_ ?_ <;> intro hb <;> (try simp only [brs] at hb) <;> conv => whnf) | (refine RegX.rule (id := 8) hT rfl [] oWPgB15_8 (by decide +kernel) ?_; conv => whnf) | (refine RegX.rule (id := 17) hT rfl [] oWPgB15_17 (by decide +kernel) ?_; conv => whnf) | (refine RegX.rule (id := 18) hT rfl [] oWPgB15_18 (by decide +kernel) ?_; conv => whnf) | (refine RegX.rule (id := 20) hT rfl [] oWPgB15_20 (by decide +kernel) ?_; conv => whnf) | (refine RegX.rule (id := 26) hT rfl [] oWPgB15_26 (by decide +kernel) ?_; conv => whnf) | (refine RegX.rule (id := 27) hT rfl [] oWPgB15_27 (by decide +kernel) ?_; conv => whnf) | (refine RegX.rule (id := 37) hT rfl [] oWPgB15_37 (by decide +kernel) ?_; conv => whnf) | omega | (refine And.intro ?_ ?_; ((try dsimp only); first | omega | (refine szA rfl ?_; omega) | (refine szB rfl ?_; omega) | (unfold inI64; omega) | exact rfl | (simp only [lns] at *; omega) | decide | (unfold inI64; decide)); conv => whnf) | decide | assumption)
         all_goals try (exfalso; omega)
         refine .freeze _ 603 87 2 _ _ rfl (.weak _ ?_)
         conv => whnf
         exact ⟨.tup [.d (pris (priL n y n.length)), .d (.int .i64 0)], _, SV.le_tup ⟨lr, lr, trivial⟩, ⟨⟨_, _, rfl, .inr ⟨⟨hn0, hr0⟩, .inr ⟨⟨floA C, left, y, hst, hOpt, hPy, hyb, rfl⟩, rfl⟩⟩⟩, rfl⟩, trivial⟩
     | true =>
       conv => whnf
       repeat' (first | (refine br_intro ?_ ?_ <;> intro hb <;> (try simp only [brs] at hb) <;> conv => whnf) | (refine RegX.rule (id := 8) hT rfl [] oWPgB15_8 (by decide +kernel) ?_; conv => whnf) | (refine RegX.rule (id := 17) hT rfl [] oWPgB15_17 (by decide +kernel) ?_; conv => whnf) | (refine RegX.rule (id := 18) hT rfl [] oWPgB15_18 (by decide +kernel) ?_; conv => whnf) | (refine RegX.rule (id := 20) hT rfl [] oWPgB15_20 (by decide +kernel) ?_; conv => whnf) | (refine RegX.rule (id := 26) hT rfl [] oWPgB15_26 (by decide +kernel) ?_; conv => whnf) | (refine RegX.rule (id := 27) hT rfl [] oWPgB15_27 (by decide +kernel) ?_; conv => whnf) | (refine RegX.rule (id := 37) hT rfl [] oWPgB15_37 (by decide +kernel) ?_; conv => whnf) | omega | (refine And.intro ?_ ?_; ((try dsimp only); first | omega | (refine szA rfl ?_; omega) | (refine szB rfl ?_; omega) | (unfold inI64; omega) | exact rfl | (simp only [lns] at *; omega) | decide | (unfold inI64; decide)); conv => whnf) | decide | assumption)
       all_goals try (exfalso; omega)
       refine LoopX.rule hT (C := []) (ι := List Int × List Int × Bool × Nat) (fun (D, E, ch, k) => k ≤ C.length ∧ RelG n r C p D0 s0 D s0 ch (fun e => e.1 < k) ∧ E.length = n.length ∧ ∀ v, v < n.length → getI E v = gonF (nwG n r) (floA C) k v) (fun (D, E, ch, k) => mkSt [(0, .d (neds n)), (7, .ptr 24 0), (10, .ptr 10 0), (11, .buf 40), (12, .fn 32 []), (13, .d (.bool ch)), (14, .buf 44), (48, .d (seqD 4 arF ar0 C)), (49, .d (.int .i64 C.length)), (50, .d (.int .i64 k))] (prvS n C D s0 ++ [(44, seqB 3 1 iF 0 E)])) (fun (_, _, _, k) => C.length - k) (D0, List.replicate n.length 0, false, 0) ⟨by show 0 ≤ _; omega, hR.weak (fun e _ q => absurd q (Nat.not_lt_zero _)), List.length_replicate, fun v hv => ?_⟩ ?_ ?_
       · show (List.replicate n.length (0 : Int)).getD v 0 = 0
         rw [List.getD_eq_getElem?_getD, List.getElem?_replicate, if_pos hv]; rfl
       · refine Entails.mk' [(24, 24), (10, 10), (40, 40), (44, 44)] rfl rfl ⟨lr, lr, lr, lr, lr, lr, lr, lr, lr, lr, trivial⟩ ⟨rr, rr, rr, ?_, trivial⟩
         exact Res.le_buf (by rw [List.length_replicate]; exact Int.toNat_natCast _) (fun i hi => by
          have hi : i < n.length := by simpa using hi
          show _ = iF ((List.replicate n.length 0).getD i 0)
          rw [List.getD_eq_getElem?_getD, List.getElem?_replicate, if_pos hi]; rfl)
       rintro ⟨D, E, ch, k⟩ ⟨hk, hRk, hEl, hEg⟩
       have hk : k ≤ C.length := hk
       have hRk : RelG n r C p D0 s0 D s0 ch (fun e => e.1 < k) := hRk
       have hEl : E.length = n.length := hEl
       have hEg : ∀ v, v < n.length → getI E v = gonF (nwG n r) (floA C) k v := hEg
       have ek : (k : Int).toNat = k := Int.toNat_natCast k
       rcases Nat.lt_or_ge k C.length with hkC | hkC
       · obtain ⟨⟨a1, a2, a3⟩, ⟨a4, a5⟩, a6, a7, a8⟩ := hI.arc hn0 hr0 hkC
         have hbk := hRk.b hI hn0 hr0
         have hEf := hEg _ a4
         have hgm := gonF_mono (G := nwG n r) (f := floA C) hst.f0 ((nwG n r).fr k) (k := k) (by omega)
         have hgl := (hI.gon hn0 a4).2.2
         have hgl : gonF (nwG n r) (floA C) (nwG n r).K ((nwG n r).fr k) ≤ 20 := hgl
         have u1 : (C.getD (k : Int).toNat ar0).fr.toNat = (nwG n r).fr k := by rw [ek, a1, Int.toNat_natCast]
         have u2 : (C.getD (k : Int).toNat ar0).to.toNat = (nwG n r).to k := by rw [ek, a2, Int.toNat_natCast]
         have u3 : (C.getD (k : Int).toNat ar0).car = (nwG n r).c k := by rw [ek]; exact a3
         have w1 : 0 ≤ (C.getD (k : Int).toNat ar0).fr ∧ (C.getD (k : Int).toNat ar0).fr < n.length := by rw [ek]; omega
         have w2 : 0 ≤ (C.getD (k : Int).toNat ar0).to ∧ (C.getD (k : Int).toNat ar0).to < n.length := by rw [ek]; omega
         have w3 : 0 ≤ (C.getD (k : Int).toNat ar0).car ∧ (C.getD (k : Int).toNat ar0).car ≤ 1000000 := by rw [ek]; exact a6
         have w4 : 0 ≤ (C.getD (k : Int).toNat ar0).flow ∧ (C.getD (k : Int).toNat ar0).flow ≤ 20 := by rw [ek]; exact a7
         have w5 : 0 ≤ E.getD (C.getD (k : Int).toNat ar0).fr.toNat 0 ∧ E.getD (C.getD (k : Int).toNat ar0).fr.toNat 0 ≤ 20 := by
          rw [u1]; unfold getI at hEf; omega
         have w6 : -10000000 ≤ D.getD (C.getD (k : Int).toNat ar0).fr.toNat 0 ∧ D.getD (C.getD (k : Int).toNat ar0).fr.toNat 0 ≤ 0 := by rw [u1]; exact hbk.2.1 _ a4
         have hDl := hbk.1
         have hR1 := hRk.arc hGo hGe (hI.op hn0 hr0) a8 (b := false) ⟨by show k < _ + _; omega, (fun _ q => by cases q), fun q => absurd a8 q⟩ (u := (C.getD (k : Int).toNat ar0).fr.toNat) (w := (C.getD (k : Int).toNat ar0).to.toNat) u1.symm u2.symm (x := D.getD (C.getD (k : Int).toNat ar0).fr.toNat 0 + (C.getD (k : Int).toNat ar0).car) (by rw [u3]; rfl)
         obtain ⟨D1, hD1⟩ : ∃ D1, D1 = lwr D (C.getD (k : Int).toNat ar0).to.toNat (D.getD (C.getD (k : Int).toNat ar0).fr.toNat 0 + (C.getD (k : Int).toNat ar0).car) := ⟨_, rfl⟩
         have c1 := p61b D (C.getD (k : Int).toNat ar0).to.toNat (D.getD (C.getD (k : Int).toNat ar0).fr.toNat 0 + (C.getD (k : Int).toNat ar0).car) (by rw [hDl]; omega)
         rw [← hD1] at hR1 c1
         have hb1 := RelG.b hI hn0 hr0 hR1
         have hD1l := hb1.1
         have w7 : -10000000 ≤ D1.getD (C.getD (k : Int).toNat ar0).to.toNat 0 ∧ D1.getD (C.getD (k : Int).toNat ar0).to.toNat 0 ≤ 0 := by rw [u2]; exact hb1.2.1 _ a5
         have hE2 : ∀ v, v < n.length → getI (E.set (C.getD (k : Int).toNat ar0).fr.toNat (E.getD (C.getD (k : Int).toNat ar0).fr.toNat 0 + (C.getD (k : Int).toNat ar0).flow)) v = gonF (nwG n r) (floA C) (k + 1) v := fun v hv => by
          rw [getI_set (by rw [u1]; omega), gonF_succ, u1, ← hEg v hv]
          unfold upd
          by_cases q : v = (nwG n r).fr k
          · rw [if_pos q, if_pos q.symm, q, ek]; rfl
          · rw [if_neg q, if_neg (fun z => q z.symm), Int.add_zero]
         by_cases hfl : 0 < (C.getD k ar0).flow
         · have c2 := p61b D1 (C.getD (k : Int).toNat ar0).fr.toNat (D1.getD (C.getD (k : Int).toNat ar0).to.toNat 0 - (C.getD (k : Int).toNat ar0).car) (by rw [hD1l]; omega)
           have hR2 := hR1.arc hGo hGe (hI.op hn0 hr0) a8 (b := true) ⟨by show k < _ + _; omega, (fun _ _ => hfl), fun q => absurd a8 q⟩ (u := (C.getD (k : Int).toNat ar0).to.toNat) (w := (C.getD (k : Int).toNat ar0).fr.toNat) u2.symm u1.symm (x := D1.getD (C.getD (k : Int).toNat ar0).to.toNat 0 - (C.getD (k : Int).toNat ar0).car) (by rw [u3]; rfl)
           conv => whnf
           repeat' (first | (refine CallX.of c1 [(1000000, 40)] rfl ⟨lr, lr, trivial⟩ ⟨rr, trivial⟩ rfl rfl ?_; rintro x' rout ⟨rfl, rfl⟩; refine ⟨rfl, ?_⟩; conv => whnf) | (refine CallX.of c2 [(1000000, 40)] rfl ⟨lr, lr, trivial⟩ ⟨rr, trivial⟩ rfl rfl ?_; rintro x' rout ⟨rfl, rfl⟩; refine ⟨rfl, ?_⟩; conv => whnf) | (refine br_intro ?_ ?_ <;> intro hb <;> (try simp only [brs] at hb) <;> conv => whnf) | (refine RegX.rule (id := 8) hT rfl [] oWPgB15_8 (by decide +kernel) ?_; conv => whnf) | (refine RegX.rule (id := 17) hT rfl [] oWPgB15_17 (by decide +kernel) ?_; conv => whnf) | (refine RegX.rule (id := 18) hT rfl [] oWPgB15_18 (by decide +kernel) ?_; conv => whnf) | (refine RegX.rule (id := 20) hT rfl [] oWPgB15_20 (by decide +kernel) ?_; conv => whnf) | (refine RegX.rule (id := 26) hT rfl [] oWPgB15_26 (by decide +kernel) ?_; conv => whnf) | (refine RegX.rule (id := 27) hT rfl [] oWPgB15_27 (by decide +kernel) ?_; conv => whnf) | (refine RegX.rule (id := 37) hT rfl [] oWPgB15_37 (by decide +kernel) ?_; conv => whnf) | omega | (refine And.intro ?_ ?_; ((try dsimp only); first | omega | (refine szA rfl ?_; omega) | (refine szB rfl ?_; omega) | (unfold inI64; omega) | exact rfl | (simp only [lns] at *; omega) | decide | (unfold inI64; decide)); conv => whnf) | decide | assumption)
           all_goals try (exfalso; omega)
           all_goals
            refine ⟨(_, _, _, k + 1), ⟨hkC, hR2.weak (fun e he q => ?_), by rw [List.length_set]; exact hEl, hE2⟩, by show C.length - (k + 1) < C.length - k; omega, Entails.mk' [(24, 24), (10, 10), (40, 40), (44, 44)] rfl rfl ⟨lr, lr, lr, lr, lr, SV.le_bool ?_, lr, lr, lr, lr, trivial⟩ ⟨rr, rr, rr, Res.le_upd (fun _ => E.getD (C.getD (k : Int).toNat ar0).fr.toNat 0 + (C.getD (k : Int).toNat ar0).flow) (fun y => rfl), trivial⟩⟩
           all_goals first
            | (have q : e.1 < k + 1 := q
               obtain ⟨e1, e2⟩ := e
               by_cases z : e1 < k
               · exact .inl (.inl z)
               · have z2 : e1 = k := by have : e1 < k + 1 := q; omega
                 subst z2
                 cases e2
                 · exact .inl (.inr rfl)
                 · exact .inr rfl)
            | (rw [decide_eq_true (by simpa only [ek] using hb)]; rfl)
            | (rename_i z1 z2
               rw [decide_eq_false (by simpa only [ek, Int.not_lt] using hb)]
               first
                | (rw [decide_eq_true (by simpa only [ek] using z1)]; rfl)
                | (rw [decide_eq_false (by simpa only [ek, Int.not_lt] using z1)]; rfl))
         · conv => whnf
           repeat' (first | (refine CallX.of c1 [(1000000, 40)] rfl ⟨lr, lr, trivial⟩ ⟨rr, trivial⟩ rfl rfl ?_; rintro x' rout ⟨rfl, rfl⟩; refine ⟨rfl, ?_⟩; conv => whnf) | (refine br_intro ?_ ?_ <;> intro hb <;> (try simp only [brs] at hb) <;> conv => whnf) | (refine RegX.rule (id := 8) hT rfl [] oWPgB15_8 (by decide +kernel) ?_; conv => whnf) | (refine RegX.rule (id := 17) hT rfl [] oWPgB15_17 (by decide +kernel) ?_; conv => whnf) | (refine RegX.rule (id := 18) hT rfl [] oWPgB15_18 (by decide +kernel) ?_; conv => whnf) | (refine RegX.rule (id := 20) hT rfl [] oWPgB15_20 (by decide +kernel) ?_; conv => whnf) | (refine RegX.rule (id := 26) hT rfl [] oWPgB15_26 (by decide +kernel) ?_; conv => whnf) | (refine RegX.rule (id := 27) hT rfl [] oWPgB15_27 (by decide +kernel) ?_; conv => whnf) | (refine RegX.rule (id := 37) hT rfl [] oWPgB15_37 (by decide +kernel) ?_; conv => whnf) | omega | (refine And.intro ?_ ?_; ((try dsimp only); first | omega | (refine szA rfl ?_; omega) | (refine szB rfl ?_; omega) | (unfold inI64; omega) | exact rfl | (simp only [lns] at *; omega) | decide | (unfold inI64; decide)); conv => whnf) | decide | assumption)
           all_goals try (exfalso; omega)
           all_goals
            refine ⟨(_, _, _, k + 1), ⟨hkC, hR1.weak (fun e he q => ?_), by rw [List.length_set]; exact hEl, hE2⟩, by show C.length - (k + 1) < C.length - k; omega, Entails.mk' [(24, 24), (10, 10), (40, 40), (44, 44)] rfl rfl ⟨lr, lr, lr, lr, lr, SV.le_bool ?_, lr, lr, lr, lr, trivial⟩ ⟨rr, rr, rr, Res.le_upd (fun _ => E.getD (C.getD (k : Int).toNat ar0).fr.toNat 0 + (C.getD (k : Int).toNat ar0).flow) (fun y => rfl), trivial⟩⟩
           all_goals first
            | (have q : e.1 < k + 1 := q
               obtain ⟨e1, e2⟩ := e
               by_cases z : e1 < k
               · exact .inl z
               · have z2 : e1 = k := by have : e1 < k + 1 := q; omega
                 subst z2
                 cases e2
                 · exact .inr rfl
                 · exact absurd (he.2.1 a8 rfl) hfl)
            | (rename_i z1
               first
                | (rw [decide_eq_true (by simpa only [ek] using z1)]; rfl)
                | (rw [decide_eq_false (by simpa only [ek, Int.not_lt] using z1)]; rfl))
       · have hkC : k = C.length := by omega
         have hCK : C.length = (nwG n r).K := by rw [hCl]; exact List.length_map _
         have hEK : ∀ v, v < n.length → getI E v = gonG n r C v := fun v hv => by rw [hEg v hv, hkC, hCK]
         rw [hkC]
         conv => whnf
         repeat' (first | (refine br_intro ?_ ?_ <;> intro hb <;> (try simp only [brs] at hb) <;> conv => whnf) | (refine RegX.rule (id := 8) hT rfl [] oWPgB15_8 (by decide +kernel) ?_; conv => whnf) | (refine RegX.rule (id := 17) hT rfl [] oWPgB15_17 (by decide +kernel) ?_; conv => whnf) | (refine RegX.rule (id := 18) hT rfl [] oWPgB15_18 (by decide +kernel) ?_; conv => whnf) | (refine RegX.rule (id := 20) hT rfl [] oWPgB15_20 (by decide +kernel) ?_; conv => whnf) | (refine RegX.rule (id := 26) hT rfl [] oWPgB15_26 (by decide +kernel) ?_; conv => whnf) | (refine RegX.rule (id := 27) hT rfl [] oWPgB15_27 (by decide +kernel) ?_; conv => whnf) | (refine RegX.rule (id := 37) hT rfl [] oWPgB15_37 (by decide +kernel) ?_; conv => whnf) | omega | (refine And.intro ?_ ?_; ((try dsimp only); first | omega | (refine szA rfl ?_; omega) | (refine szB rfl ?_; omega) | (unfold inI64; omega) | exact rfl | (simp only [lns] at *; omega) | decide | (unfold inI64; decide)); conv => whnf) | decide | assumption)
         all_goals try (exfalso; omega)
         refine LoopX.rule hT (C := []) (ι := List Int × Int × Bool × Nat) (fun (D, s, ch, i) => i ≤ n.length ∧ RelG n r C p D0 s0 D s ch (fun e => e.1 < (nwG n r).K + i)) (fun (D, s, ch, i) => mkSt [(0, .d (neds n)), (7, .ptr 24 0), (10, .ptr 10 0), (11, .buf 40), (12, .fn 32 []), (13, .d (.bool ch)), (14, .buf 44), (102, .d (.int .i64 n.length)), (103, .d (.int .i64 i))] (prvS n C D s ++ [(44, seqB 3 1 iF 0 E)])) (fun (_, _, _, i) => n.length - i) (D, s0, ch, 0) ⟨by show 0 ≤ _; omega, hRk.weak (fun e _ q => by have q : e.1 < (nwG n r).K + 0 := q; omega)⟩ ?_ ?_
         · exact Entails.mk' [(24, 24), (10, 10), (40, 40), (44, 44)] rfl rfl ⟨lr, lr, lr, lr, lr, lr, lr, lr, lr, trivial⟩ ⟨rr, rr, rr, rr, trivial⟩
         clear hRk hEg hkC
         rintro ⟨D, s, ch, i⟩ ⟨hi, hRi⟩
         have hi : i ≤ n.length := hi
         have hRi : RelG n r C p D0 s0 D s ch (fun e => e.1 < (nwG n r).K + i) := hRi
         have e1 : (i : Int).toNat = i := Int.toNat_natCast i
         have hbi := hRi.b hI hn0 hr0
         have hDl := hbi.1
         have hhl : (havL n).length = n.length := fillA_length
         rcases Nat.lt_or_ge i n.length with hin | hin
         · have v1 := hbi.2.1 i hin
           have v2 := hEK i hin
           have v3 := (hI.gon hn0 hin).2
           have v4 := (havF_bd hn0 i).1
           rw [← getI_hav hin] at v4
           unfold getI at v2 v4
           have v5 : 0 ≤ gonF (nwG n r) (floA C) (nwG n r).K i ∧ gonF (nwG n r) (floA C) (nwG n r).K i ≤ 20 := v3
           have v2 : E.getD i 0 = gonF (nwG n r) (floA C) (nwG n r).K i := v2
           have hop := hI.op hn0 hr0
           have hKi : (i : Int).toNat < (nwG n r).N := by rw [e1]; exact hin
           have hnK : ¬ (nwG n r).K + (i : Int).toNat < (nwG n r).K := by omega
           have hsub : (nwG n r).K + (i : Int).toNat - (nwG n r).K = i := by omega
           have hsplit : ∀ e : Nat × Bool, e.1 < (nwG n r).K + (i + 1) → e.1 < (nwG n r).K + i ∨ e = ((nwG n r).K + (i : Int).toNat, false) ∨ e = ((nwG n r).K + (i : Int).toNat, true) := fun e q => by
            obtain ⟨a, b⟩ := e
            have q : a < (nwG n r).K + (i + 1) := q
            by_cases z : a < (nwG n r).K + i
            · exact .inl z
            · have : a = (nwG n r).K + (i : Int).toNat := by omega
              subst this
              cases b
              · exact .inr (.inl rfl)
              · exact .inr (.inr rfl)
           have hopn : ∀ b, opnG n r C ((nwG n r).K + (i : Int).toNat, b) → 0 < (havL n).getD i 0 ∧ (b = false → E.getD i 0 < (havL n).getD i 0) ∧ (b = true → 0 < E.getD i 0) := fun b he => by
            have := he.2.2 hnK
            rw [show ((nwG n r).K + (i : Int).toNat, b).1 - (nwG n r).K = i from hsub] at this
            rw [v2]; exact this
           have hmk : ∀ b, 0 < (havL n).getD i 0 → (b = false → E.getD i 0 < (havL n).getD i 0) → (b = true → 0 < E.getD i 0) → opnG n r C ((nwG n r).K + (i : Int).toNat, b) := fun b h1 h2 h3 => by
            refine ⟨by show _ + _ < _ + _; omega, fun q => absurd q hnK, fun _ => ?_⟩
            rw [show ((nwG n r).K + (i : Int).toNat, b).1 - (nwG n r).K = i from hsub]
            rw [v2] at h2 h3
            exact ⟨h1, h2, h3⟩
           by_cases z0 : (havL n).getD i 0 = 0
           · conv => whnf
             repeat' (first | (refine br_intro ?_ ?_ <;> intro hb <;> (try simp only [brs] at hb) <;> conv => whnf) | (refine RegX.rule (id := 8) hT rfl [] oWPgB15_8 (by decide +kernel) ?_; conv => whnf) | (refine RegX.rule (id := 17) hT rfl [] oWPgB15_17 (by decide +kernel) ?_; conv => whnf) | (refine RegX.rule (id := 18) hT rfl [] oWPgB15_18 (by decide +kernel) ?_; conv => whnf) | (refine RegX.rule (id := 20) hT rfl [] oWPgB15_20 (by decide +kernel) ?_; conv => whnf) | (refine RegX.rule (id := 26) hT rfl [] oWPgB15_26 (by decide +kernel) ?_; conv => whnf) | (refine RegX.rule (id := 27) hT rfl [] oWPgB15_27 (by decide +kernel) ?_; conv => whnf) | (refine RegX.rule (id := 37) hT rfl [] oWPgB15_37 (by decide +kernel) ?_; conv => whnf) | omega | (refine And.intro ?_ ?_; ((try dsimp only); first | omega | (refine szA rfl ?_; omega) | (refine szB rfl ?_; omega) | (unfold inI64; omega) | exact rfl | (simp only [lns] at *; omega) | decide | (unfold inI64; decide)); conv => whnf) | decide | assumption)
             all_goals try (exfalso; omega)
             refine ⟨(D, s, ch, i + 1), ⟨hin, hRi.weak (fun e he q => ?_)⟩, by show n.length - (i + 1) < n.length - i; omega, Entails.mk' [(24, 24), (10, 10), (40, 40), (44, 44)] rfl rfl ⟨lr, lr, lr, lr, lr, lr, lr, lr, lr, trivial⟩ ⟨rr, rr, rr, rr, trivial⟩⟩
             rcases hsplit e q with w | rfl | rfl
             · exact w
             · have := (hopn _ he).1; omega
             · have := (hopn _ he).1; omega
           · by_cases z1 : E.getD i 0 < (havL n).getD i 0
             · have hR1 := hRi.inn hGe hop hKi (hmk false (by omega) (fun _ => z1) (fun q => by cases q))
               obtain ⟨D1, hD1⟩ : ∃ D1, D1 = lwr D (i : Int).toNat s := ⟨_, rfl⟩
               have c1 := p61b D (i : Int).toNat s (by rw [hDl]; omega)
               rw [← hD1] at hR1 c1
               have hb1 := RelG.b hI hn0 hr0 hR1
               have hD1l := hb1.1
               by_cases z2 : 0 < E.getD i 0
               · have hR2 := hR1.out hGe hop hKi (hmk true (by omega) (fun q => by cases q) (fun _ => z2))
                 have c2 := p61a s (D1.getD (i : Int).toNat 0)
                 conv => whnf
                 repeat' (first | (refine CallX.of c1 [(1000000, 40)] rfl ⟨lr, lr, trivial⟩ ⟨rr, trivial⟩ rfl rfl ?_; rintro x' rout ⟨rfl, rfl⟩; refine ⟨rfl, ?_⟩; conv => whnf) | (refine CallX.of c2 [(1000000, 10)] rfl ⟨lr, lr, trivial⟩ ⟨rr, trivial⟩ rfl rfl ?_; rintro x' rout ⟨rfl, rfl⟩; refine ⟨rfl, ?_⟩; conv => whnf) | (refine br_intro ?_ ?_ <;> intro hb <;> (try simp only [brs] at hb) <;> conv => whnf) | (refine RegX.rule (id := 8) hT rfl [] oWPgB15_8 (by decide +kernel) ?_; conv => whnf) | (refine RegX.rule (id := 17) hT rfl [] oWPgB15_17 (by decide +kernel) ?_; conv => whnf) | (refine RegX.rule (id := 18) hT rfl [] oWPgB15_18 (by decide +kernel) ?_; conv => whnf) | (refine RegX.rule (id := 20) hT rfl [] oWPgB15_20 (by decide +kernel) ?_; conv => whnf) | (refine RegX.rule (id := 26) hT rfl [] oWPgB15_26 (by decide +kernel) ?_; conv => whnf) | (refine RegX.rule (id := 27) hT rfl [] oWPgB15_27 (by decide +kernel) ?_; conv => whnf) | (refine RegX.rule (id := 37) hT rfl [] oWPgB15_37 (by decide +kernel) ?_; conv => whnf) | omega | (refine And.intro ?_ ?_; ((try dsimp only); first | omega | (refine szA rfl ?_; omega) | (refine szB rfl ?_; omega) | (unfold inI64; omega) | exact rfl | (simp only [lns] at *; omega) | decide | (unfold inI64; decide)); conv => whnf) | decide | assumption)
                 all_goals try (exfalso; omega)
                 all_goals
                  refine ⟨(_, _, _, i + 1), ⟨hin, hR2.weak (fun e he q => ?_)⟩, by show n.length - (i + 1) < n.length - i; omega, Entails.mk' [(24, 24), (10, 10), (40, 40), (44, 44)] rfl rfl ⟨lr, lr, lr, lr, lr, SV.le_bool ?_, lr, lr, lr, trivial⟩ ⟨rr, rr, rr, rr, trivial⟩⟩
                 all_goals first
                  | (rcases hsplit e q with w | rfl | rfl
                     · exact .inl (.inl w)
                     · exact .inl (.inr rfl)
                     · exact .inr rfl)
                  | (rw [decide_eq_true (by simpa only [e1] using hb)]; rfl)
                  | (rename_i z1 z2
                     rw [decide_eq_false (by simpa only [e1, Int.not_lt] using hb)]
                     first
                      | (rw [decide_eq_true (by simpa only [e1] using z1)]; rfl)
                      | (rw [decide_eq_false (by simpa only [e1, Int.not_lt] using z1)]; rfl))
               · conv => whnf
                 repeat' (first | (refine CallX.of c1 [(1000000, 40)] rfl ⟨lr, lr, trivial⟩ ⟨rr, trivial⟩ rfl rfl ?_; rintro x' rout ⟨rfl, rfl⟩; refine ⟨rfl, ?_⟩; conv => whnf) | (refine br_intro ?_ ?_ <;> intro hb <;> (try simp only [brs] at hb) <;> conv => whnf) | (refine RegX.rule (id := 8) hT rfl [] oWPgB15_8 (by decide +kernel) ?_; conv => whnf) | (refine RegX.rule (id := 17) hT rfl [] oWPgB15_17 (by decide +kernel) ?_; conv => whnf) | (refine RegX.rule (id := 18) hT rfl [] oWPgB15_18 (by decide +kernel) ?_; conv => whnf) | (refine RegX.rule (id := 20) hT rfl [] oWPgB15_20 (by decide +kernel) ?_; conv => whnf) | (refine RegX.rule (id := 26) hT rfl [] oWPgB15_26 (by decide +kernel) ?_; conv => whnf) | (refine RegX.rule (id := 27) hT rfl [] oWPgB15_27 (by decide +kernel) ?_; conv => whnf) | (refine RegX.rule (id := 37) hT rfl [] oWPgB15_37 (by decide +kernel) ?_; conv => whnf) | omega | (refine And.intro ?_ ?_; ((try dsimp only); first | omega | (refine szA rfl ?_; omega) | (refine szB rfl ?_; omega) | (unfold inI64; omega) | exact rfl | (simp only [lns] at *; omega) | decide | (unfold inI64; decide)); conv => whnf) | decide | assumption)
                 all_goals try (exfalso; omega)
                 all_goals
                  refine ⟨(_, _, _, i + 1), ⟨hin, hR1.weak (fun e he q => ?_)⟩, by show n.length - (i + 1) < n.length - i; omega, Entails.mk' [(24, 24), (10, 10), (40, 40), (44, 44)] rfl rfl ⟨lr, lr, lr, lr, lr, SV.le_bool ?_, lr, lr, lr, trivial⟩ ⟨rr, rr, rr, rr, trivial⟩⟩
                 all_goals first
                  | (rcases hsplit e q with w | rfl | rfl
                     · exact .inl w
                     · exact .inr rfl
                     · exact absurd ((hopn _ he).2.2 rfl) z2)
                  | (rename_i z1
                     first
                      | (rw [decide_eq_true (by simpa only [e1] using z1)]; rfl)
                      | (rw [decide_eq_false (by simpa only [e1, Int.not_lt] using z1)]; rfl))
             · have z2 : 0 < E.getD i 0 := by omega
               have hR2 := hRi.out hGe hop hKi (hmk true (by omega) (fun q => by cases q) (fun _ => z2))
               have c2 := p61a s (D.getD (i : Int).toNat 0)
               conv => whnf
               repeat' (first | (refine CallX.of c2 [(1000000, 10)] rfl ⟨lr, lr, trivial⟩ ⟨rr, trivial⟩ rfl rfl ?_; rintro x' rout ⟨rfl, rfl⟩; refine ⟨rfl, ?_⟩; conv => whnf) | (refine br_intro ?_ ?_ <;> intro hb <;> (try simp only [brs] at hb) <;> conv => whnf) | (refine RegX.rule (id := 8) hT rfl [] oWPgB15_8 (by decide +kernel) ?_; conv => whnf) | (refine RegX.rule (id := 17) hT rfl [] oWPgB15_17 (by decide +kernel) ?_; conv => whnf) | (refine RegX.rule (id := 18) hT rfl [] oWPgB15_18 (by decide +kernel) ?_; conv => whnf) | (refine RegX.rule (id := 20) hT rfl [] oWPgB15_20 (by decide +kernel) ?_; conv => whnf) | (refine RegX.rule (id := 26) hT rfl [] oWPgB15_26 (by decide +kernel) ?_; conv => whnf) | (refine RegX.rule (id := 27) hT rfl [] oWPgB15_27 (by decide +kernel) ?_; conv => whnf) | (refine RegX.rule (id := 37) hT rfl [] oWPgB15_37 (by decide +kernel) ?_; conv => whnf) | omega | (refine And.intro ?_ ?_; ((try dsimp only); first | omega | (refine szA rfl ?_; omega) | (refine szB rfl ?_; omega) | (unfold inI64; omega) | exact rfl | (simp only [lns] at *; omega) | decide | (unfold inI64; decide)); conv => whnf) | decide | assumption)
               all_goals try (exfalso; omega)
               all_goals
                refine ⟨(_, _, _, i + 1), ⟨hin, hR2.weak (fun e he q => ?_)⟩, by show n.length - (i + 1) < n.length - i; omega, Entails.mk' [(24, 24), (10, 10), (40, 40), (44, 44)] rfl rfl ⟨lr, lr, lr, lr, lr, SV.le_bool ?_, lr, lr, lr, trivial⟩ ⟨rr, rr, rr, rr, trivial⟩⟩
               all_goals first
                | (rcases hsplit e q with w | rfl | rfl
                   · exact .inl w
                   · exact absurd ((hopn _ he).2.1 rfl) z1
                   · exact .inr rfl)
                | (rw [decide_eq_true (by simpa only [e1] using hb)]; rfl)
                | (rw [decide_eq_false (by simpa only [e1, Int.not_lt] using hb)]; rfl)
         · have hin : i = n.length := by omega
           have hall : ∀ e, opnG n r C e → e.1 < (nwG n r).K + i := fun e he => by rw [hin]; exact he.1
           have hlow := hRi.low hI hn0 hr0
           have hnew : RelG n r C p D s D s false (fun _ => ch = false) := ⟨hRi.len, hRi.pw, fun _ => ⟨⟨rfl, rfl⟩, fun e he hc => (hRi.no hc).2 e he (hall e he)⟩, fun q => by cases q⟩
           rw [hin]
           conv => whnf
           repeat' (first | (refine br_intro ?_ ?_ <;> intro hb <;> (try simp only [brs] at hb) <;> conv => whnf) | (refine RegX.rule (id := 8) hT rfl [] oWPgB15_8 (by decide +kernel) ?_; conv => whnf) | (refine RegX.rule (id := 17) hT rfl [] oWPgB15_17 (by decide +kernel) ?_; conv => whnf) | (refine RegX.rule (id := 18) hT rfl [] oWPgB15_18 (by decide +kernel) ?_; conv => whnf) | (refine RegX.rule (id := 20) hT rfl [] oWPgB15_20 (by decide +kernel) ?_; conv => whnf) | (refine RegX.rule (id := 26) hT rfl [] oWPgB15_26 (by decide +kernel) ?_; conv => whnf) | (refine RegX.rule (id := 27) hT rfl [] oWPgB15_27 (by decide +kernel) ?_; conv => whnf) | (refine RegX.rule (id := 37) hT rfl [] oWPgB15_37 (by decide +kernel) ?_; conv => whnf) | omega | (refine And.intro ?_ ?_; ((try dsimp only); first | omega | (refine szA rfl ?_; omega) | (refine szB rfl ?_; omega) | (unfold inI64; omega) | exact rfl | (simp only [lns] at *; omega) | decide | (unfold inI64; decide)); conv => whnf) | decide | assumption)
           all_goals try (exfalso; omega)
           refine ⟨(D, s, ch), hnew, ?_, Entails.mk' [(24, 24), (10, 10), (40, 40)] rfl rfl ⟨lr, lr, lr, lr, lr, lr, trivial⟩ ⟨rr, rr, rr, trivial⟩⟩
           show 2 * (su (dst (nwG n r).N D s) ((nwG n r).N + 1) + 200000000).toNat + (if ch = true then 1 else 0) < 2 * (su (dst (nwG n r).N D0 s0) ((nwG n r).N + 1) + 200000000).toNat + (if true = true then 1 else 0)
           cases hc : ch with
           | false => obtain ⟨⟨q1, q2⟩, _⟩ := hRi.no hc; rw [q1, q2]; simp
           | true => have := hRi.yes hc; simp; omega
   · refine .weak _ ?_
     conv => whnf
     exact ⟨.tup [.d (pris []), .d (.int .i64 12)], _, SV.le_tup ⟨SV.le_nilS, lr, trivial⟩, ⟨⟨[], 12, rfl, .inr ⟨⟨hn0, hr0⟩, .inl ⟨fun g hg => hno g ((Nw.Bip.fl (nwG_bip n r) (fun v hv hk => by rw [getI_hav hv]; have := kindB_get.1 hk; unfold havF; omega) (fun v hv hk => by rw [getI_wnt hv]; have := kindB_get.2 hk; unfold wntF; omega) g).2 hg), rfl, rfl⟩⟩⟩, rfl⟩, trivial⟩
 · repeat' (first | (refine CallX.exact (s113') rfl rfl ?_; rotate_right; conv => whnf) | (refine br_intro ?_ ?_ <;> intro hb <;> (try simp only [brs] at hb) <;> conv => whnf) | (refine RegX.rule (id := 8) hT rfl [] oWPgB15_8 (by decide +kernel) ?_; conv => whnf) | (refine RegX.rule (id := 17) hT rfl [] oWPgB15_17 (by decide +kernel) ?_; conv => whnf) | (refine RegX.rule (id := 18) hT rfl [] oWPgB15_18 (by decide +kernel) ?_; conv => whnf) | (refine RegX.rule (id := 20) hT rfl [] oWPgB15_20 (by decide +kernel) ?_; conv => whnf) | (refine RegX.rule (id := 26) hT rfl [] oWPgB15_26 (by decide +kernel) ?_; conv => whnf) | (refine RegX.rule (id := 27) hT rfl [] oWPgB15_27 (by decide +kernel) ?_; conv => whnf) | (refine RegX.rule (id := 37) hT rfl [] oWPgB15_37 (by decide +kernel) ?_; conv => whnf) | omega | (refine And.intro ?_ ?_; ((try dsimp only); first | omega | (refine szA rfl ?_; omega) | (refine szB rfl ?_; omega) | (unfold inI64; omega) | exact rfl | (simp only [lns] at *; omega) | decide | (unfold inI64; decide)); conv => whnf) | decide | assumption)
   all_goals try (exfalso; omega)
   refine .weak _ ?_
   conv => whnf
   exact ⟨.tup [.d (pris []), .d (.int .i64 E0)], _, SV.le_tup ⟨SV.le_nilS, lr, trivial⟩, ⟨⟨[], E0, rfl, .inl ⟨h0, hE0.symm, rfl⟩⟩, rfl⟩, trivial⟩
abbrev priS (n : List Ned) (l : List Pri) : Prop := n.length = l.length ∧ ∀ i, i < l.length → (n.getD i nd0).st = (l.getD i pr00).st
abbrev priB (l : List Pri) : Prop := ∀ i, i < l.length → -10000000 ≤ (l.getD i pr00).cents ∧ (l.getD i pr00).cents ≤ 10000000
def priE (n : List Ned) (l : List Pri) : Int := if ¬ priS n l then 3 else if ¬ priB l then 1 else 0
theorem priE_zero {n : List Ned} {l : List Pri} (h : priE n l = 0) : priS n l ∧ priB l := by
 unfold priE at h
 split at h
 · cases h
 · rename_i q
   split at h
   · cases h
   · rename_i q2
     exact ⟨Classical.not_not.1 q, Classical.not_not.1 q2⟩
def pc (l : List Pri) (v : Nat) : Int := (l.getD v pr00).cents
def buF (n : List Ned) (l : List Pri) (v : Nat) : Int := wntF n v * pc l v - havF n v * max 0 (pc l v)
def buX (n : List Ned) (l : List Pri) (x : Ar3) : Int := max 0 (pc l x.to - pc l x.fr - x.car) * min (havF n x.fr) (wntF n x.to)
def buC (n : List Ned) (r : List Roa) (l : List Pri) (i k : Nat) : Int := match arCell n r i k with
 | some x => buX n l x
 | none => 0
def bouN (n : List Ned) (r : List Roa) (l : List Pri) : Int := su (buF n l) n.length - su (fun j => buX n l ((arL n r).getD j a30)) (arL n r).length
def lsm {α : Type} (g : α → Int) (l : List α) : Int := (l.map g).sum
theorem lsm_app {α : Type} (g : α → Int) (a b : List α) : lsm g (a ++ b) = lsm g a + lsm g b := by unfold lsm; rw [List.map_append, List.sum_append]
theorem lsm_su {α : Type} (g : α → Int) (d : α) : ∀ l : List α, su (fun j => g (l.getD j d)) l.length = lsm g l := by
 have key : ∀ (l : List α) (k : Nat), k ≤ l.length → su (fun j => g (l.getD j d)) k = lsm g (l.take k) := by
  intro l k
  induction k with
  | zero => intro _; rfl
  | succ k ih =>
    intro hk
    rw [su, ih (by omega), take_getD (d := d) (by omega), lsm_app]
    congr 1
    unfold lsm; simp
 intro l
 rw [key l l.length (Nat.le_refl _), List.take_length]
theorem arPre_sum (n : List Ned) (r : List Roa) (l : List Pri) : ∀ i k, lsm (buX n l) (arPre n r i k) = su (fun i' => su (buC n r l i') n.length) i + su (buC n r l i) k
 | 0, 0 => rfl
 | i + 1, 0 => by
   rw [← arPre_next, arPre_sum n r l i n.length]
   show _ = su (fun i' => su (buC n r l i') n.length) i + su (buC n r l i) n.length + 0
   rw [Int.add_zero]
 | i, k + 1 => by
   rw [arPre_succ, lsm_app, arPre_sum n r l i k, su, Int.add_assoc]
   congr 2
   unfold buC
   cases arCell n r i k with
   | none => rfl
   | some x => show (List.map (buX n l) [x]).sum = _; simp
theorem bouN_eq (n : List Ned) (r : List Roa) (l : List Pri) : bouN n r l = su (fun i => buF n l i - su (fun k => buC n r l k i) n.length) n.length := by
 unfold bouN
 rw [lsm_su, ← arPre_all, arPre_sum]
 show _ - (_ + 0) = _
 rw [Int.add_zero, su_swap (fun i' k => buC n r l i' k) n.length n.length, su_sub]
theorem mul_bd {x y a b : Int} (h1 : 0 ≤ x ∧ x ≤ a) (h2 : -b ≤ y ∧ y ≤ b) : -(a * b) ≤ x * y ∧ x * y ≤ a * b := by
 have hb : 0 ≤ b := by omega
 have e1 : x * b ≤ a * b := Int.mul_le_mul_of_nonneg_right h1.2 hb
 have e2 : x * y ≤ x * b := Int.mul_le_mul_of_nonneg_left h2.2 h1.1
 have e3 : x * (-b) ≤ x * y := Int.mul_le_mul_of_nonneg_left h2.1 h1.1
 rw [Int.mul_neg] at e3
 omega
theorem mul_nb {x y a b : Int} (h1 : 0 ≤ x ∧ x ≤ a) (h2 : 0 ≤ y ∧ y ≤ b) : 0 ≤ x * y ∧ x * y ≤ a * b :=
 ⟨Int.mul_nonneg h1.1 h2.1, Int.mul_le_mul h1.2 h2.2 h2.1 (by omega)⟩
theorem pc_bd {l : List Pri} (h : priB l) (v : Nat) : -10000000 ≤ pc l v ∧ pc l v ≤ 10000000 := by
 rcases Nat.lt_or_ge v l.length with q | q
 · exact h v q
 · unfold pc; rw [List.getD_eq_getElem?_getD, List.getElem?_eq_none q]; decide
theorem buF_bd {n : List Ned} {l : List Pri} (hn : ndsE n = 0) (hl : priB l) (v : Nat) : -400000000 ≤ buF n l v ∧ buF n l v ≤ 400000000 := by
 have h1 := havF_bd hn v
 have h2 := pc_bd hl v
 have h3 := mul_bd h1.2 (b := 10000000) ⟨h2.1, h2.2⟩
 have h4 := mul_nb h1.1 (y := max 0 (pc l v)) (b := 10000000) ⟨by omega, by omega⟩
 unfold buF; omega
theorem buX_bd {n : List Ned} {l : List Pri} (hn : ndsE n = 0) (hl : priB l) {x : Ar3} (hx : 0 ≤ x.car) : 0 ≤ buX n l x ∧ buX n l x ≤ 400000000 := by
 have h1 := havF_bd hn x.fr
 have h2 := havF_bd hn x.to
 have h3 := pc_bd hl x.fr
 have h4 := pc_bd hl x.to
 have := mul_nb (x := max 0 (pc l x.to - pc l x.fr - x.car)) (a := 20000000) (y := min (havF n x.fr) (wntF n x.to)) (b := 20) ⟨by omega, by omega⟩ ⟨by omega, by omega⟩
 unfold buX; omega
theorem arCell_some {n : List Ned} {r : List Roa} {i k : Nat} {x : Ar3} (h : arCell n r i k = some x) : (x.fr = i ∧ x.to = k) ∧ (0 < manyP n i ∧ manyP n k < 0) ∧ wayO n r i k = some x.car := by
 unfold arCell at h
 split at h
 · rename_i q
   rw [Option.map_eq_some_iff] at h
   obtain ⟨c, hc, rfl⟩ := h
   exact ⟨⟨rfl, rfl⟩, q, hc⟩
 · cases h
theorem wayO_bd {n : List Ned} {r : List Roa} (hr : rdsE r = 0) {i k : Nat} {c : Int} (h : wayO n r i k = some c) : 0 ≤ c ∧ c ≤ 1000000 := by
 unfold wayO at h
 rw [Option.map_eq_some_iff] at h
 obtain ⟨x, hx, e⟩ := h
 have := (roadO_bd hr hx).1
 omega
theorem buC_bd {n : List Ned} {r : List Roa} {l : List Pri} (hn : ndsE n = 0) (hr : rdsE r = 0) (hl : priB l) (i k : Nat) : 0 ≤ buC n r l i k ∧ buC n r l i k ≤ 400000000 := by
 unfold buC
 cases h : arCell n r i k with
 | none => show 0 ≤ (0 : Int) ∧ (0 : Int) ≤ 400000000; omega
 | some x => exact buX_bd hn hl (wayO_bd hr (arCell_some h).2.2).1
theorem su_sb {F : Nat → Int} {b : Int} (hb : 0 ≤ b) : ∀ {n : Nat}, (∀ v, v < n → -b ≤ F v ∧ F v ≤ b) → -(b * n) ≤ su F n ∧ su F n ≤ b * n
 | 0, _ => by simp [su]
 | n + 1, h => by
   have := su_sb hb (n := n) (fun v hv => h v (by omega))
   have h2 := h n (by omega)
   have h3 : b * ((n + 1 : Nat) : Int) = b * n + b := by rw [Int.natCast_add, Int.mul_add]; simp
   rw [su]; omega
theorem bouN_prc {n : List Ned} {r : List Roa} (hn : ndsE n = 0) (hr : rdsE r = 0) {f left y : Nat → Int} (hs : (nwG n r).St (getI (havL n)) (getI (wntL n)) f left (fun _ => 0)) (hp : (nwG n r).Prc (getI (havL n)) f (gonF (nwG n r) f (nwG n r).K) y) :
 bouN n r (priL n y n.length) = (nwG n r).cost f := by
 have hB := nwG_bip n r
 have hG := (nwG_ok (n := n) hr).1
 have hpc : ∀ v, v < n.length → pc (priL n y n.length) v = if (n.getD v nd0).many ≠ 0 then y v else 0 := fun v hv => by
  unfold pc priL
  rw [List.getD_eq_getElem?_getD, List.getElem?_map, List.getElem?_range hv]; rfl
 have hz : su (fun j => buX n (priL n y n.length) ((arL n r).getD j a30)) (arL n r).length = 0 := su_zero fun j hj => by
  have hm := arL_mem (nwG_at (n := n) (r := r) (k := j) hj)
  have h1 : pc (priL n y n.length) ((arL n r).getD j a30).fr = y ((arL n r).getD j a30).fr := by
   rw [hpc _ hm.1.1, if_pos]; have := hm.1.2; unfold manyP at this; omega
  have h2 : pc (priL n y n.length) ((arL n r).getD j a30).to = y ((arL n r).getD j a30).to := by
   rw [hpc _ hm.2.1.1, if_pos]; have := hm.2.1.2; unfold manyP at this; omega
  have h3 : y ((arL n r).getD j a30).to ≤ y ((arL n r).getD j a30).fr + ((arL n r).getD j a30).car := hp.ar j hj
  unfold buX
  rw [h1, h2]
  have : max 0 (y ((arL n r).getD j a30).to - y ((arL n r).getD j a30).fr - ((arL n r).getD j a30).car) = 0 := by omega
  rw [this, Int.zero_mul]
 unfold bouN
 rw [hz, Int.sub_zero]
 rw [← Nw.prc_cost hG hs hp (fun v hv => ?_) (fun v hv h0 => ?_)]
 · refine su_congr fun v hv => ?_
   unfold buF
   have hv : v < n.length := hv
   rw [hpc v hv, getI_hav hv, getI_wnt hv]
   by_cases q : (n.getD v nd0).many = 0
   · have e1 : havF n v = 0 := by unfold havF manyP; omega
     have e2 : wntF n v = 0 := by unfold wntF manyP; omega
     rw [e1, e2, Int.zero_mul, Int.zero_mul, Int.zero_mul, Int.zero_mul]
   · rw [if_pos q]
 · have hv : v < n.length := hv
   rw [getI_hav hv, getI_wnt hv]
   unfold havF wntF; omega
 · have hv : v < n.length := hv
   refine gonF_all hB hs (fun v hv hk => by rw [getI_wnt hv]; have := kindB_get.2 hk; unfold wntF; omega) hv ?_
   rw [getI_hav hv] at h0
   cases hk : kindB n v with
   | true => rfl
   | false => have := kindB_get.1 hk; unfold havF at h0; omega
def oWPhB16_6 : List (Nat × List Nat) := [(0, []), (1, []), (2, [0, 1]), (3, [0, 1, 2]), (4, [0, 1]), (5, [0, 1]), (6, [0, 1]), (7, [])]
def oWPhB17_7 : List (Nat × List Nat) := [(0, []), (1, [0]), (2, [0]), (3, [0, 1, 2]), (4, [0, 1, 2, 3]), (5, [0, 1, 2]), (6, [0, 1, 2]), (7, [0, 1, 2]), (8, [0, 1, 2]), (9, [0]), (10, []), (11, [])]
def oWPhB17_5 : List (Nat × List Nat) := [(0, []), (1, [0]), (2, [0]), (3, [0]), (4, [0, 1, 2, 3]), (5, [0, 1, 2, 3, 4]), (6, [0, 1, 2, 3]), (7, [0, 1, 2, 3]), (8, [0, 1, 2, 3]), (9, [0]), (10, []), (11, [])]
def oWPhB17_13 : List (Nat × List Nat) := [(0, []), (1, [0]), (2, [0, 1]), (3, [0]), (4, [0]), (5, [0]), (6, [0, 1, 2, 3, 4, 5]), (7, [0, 1, 2, 3, 4, 5, 6]), (8, [0, 1, 2, 3, 4, 5]), (9, [0, 1, 2, 3, 4, 5]), (10, [0, 1, 2, 3, 4, 5]), (11, [0]), (12, [0, 1, 2, 3, 4, 5, 6, 7, 8, 9, 10, 11]), (13, [0, 1, 2, 3, 4, 5, 6, 7, 8, 9, 10, 11]), (14, [0]), (15, [0]), (16, [0, 1, 2, 3, 4, 5, 6, 7, 8, 9, 10, 11, 12, 13, 14, 15]), (17, [0, 1, 2, 3, 4, 5, 6, 7, 8, 9, 10, 11, 12, 13, 14, 15]), (18, [0, 1, 2, 3, 4, 5, 6, 7, 8, 9, 10, 11, 12, 13, 14, 15, 16, 17]), (19, [0, 1, 2, 3, 4, 5, 6, 7, 8, 9, 10, 11, 12, 13, 14, 15, 16, 17]), (20, [0, 1, 2, 3, 4, 5, 6, 7, 8, 9, 10, 11, 12, 13, 14, 15, 16, 17]), (21, [0, 1, 2, 3, 4, 5, 6, 7, 8, 9, 10, 11, 12, 13, 14, 15]), (22, [0]), (23, []), (24, [])]
theorem priE_no {n : List Ned} {l : List Pri} (h : ¬ priS n l) : priE n l = 3 := if_pos h
theorem priE_one {n : List Ned} {l : List Pri} (h : priS n l) (h2 : ¬ priB l) : priE n l = 1 := by unfold priE; rw [if_neg (fun q => q h), if_pos h2]
theorem priE_ok {n : List Ned} {l : List Pri} (h : priS n l) (h2 : priB l) : priE n l = 0 := by unfold priE; rw [if_neg (fun q => q h), if_neg (fun q => q h2)]
set_option maxHeartbeats 4000000 in
theorem p25 (n : List Ned) (l : List Pri) (hn : n.length ≤ 2^40) (hl : l.length ≤ 2^40) : FSpec Tryd.prog 16 [.d (neds n), .d (pris l)] [] (fun y r => y = .d (.int .i64 (priE n l)) ∧ r = []) := by
 refine spec_of hT (C := []) Tryd.func16 rfl Tryd.call16 rfl rfl rfl ?_
 conv => whnf
 repeat' (first | (refine br_intro ?_ ?_ <;> intro hb <;> (try simp only [brs] at hb) <;> conv => whnf) | (refine RegX.rule (id := 6) hT rfl [] oWPhB16_6 (by decide +kernel) ?_; conv => whnf) | omega | (refine And.intro ?_ ?_; ((try dsimp only); first | omega | (refine szA rfl ?_; omega) | (refine szB rfl ?_; omega) | (unfold inI64; omega) | exact rfl | (simp only [lns] at *; omega) | decide | (unfold inI64; decide)); conv => whnf) | decide | assumption)
 · refine .ret _ ?_
   conv => whnf
   refine ⟨[], ⟨?_, rfl⟩, trivial⟩
   conv => lhs; whnf
   rw [priE_no (fun q => by have := q.1; omega)]
 refine LoopX.rule hT (C := []) (ι := Nat) (fun i => i ≤ l.length ∧ ∀ j, j < i → (n.getD j nd0).st = (l.getD j pr00).st) (fun i => mkSt [(0, .d (neds n)), (1, .d (pris l)), (14, .d (pris l)), (15, .d (.int .i64 l.length)), (16, .d (.int .i64 i))] []) (fun i => l.length - i) 0 ⟨Nat.zero_le _, fun j hj => absurd hj (Nat.not_lt_zero _)⟩ ?_ ?_
 · exact Entails.mk' [] rfl rfl ⟨lr, lr, lr, lr, lr, trivial⟩ trivial
 rintro i ⟨hi, ha⟩
 have hi : i ≤ l.length := hi
 have ha : ∀ j, j < i → (n.getD j nd0).st = (l.getD j pr00).st := ha
 rcases Nat.lt_or_ge i l.length with hil | hil
 · conv => whnf
   repeat' (first | (refine br_intro ?_ ?_ <;> intro hb <;> (try simp only [brs] at hb) <;> conv => whnf) | (refine RegX.rule (id := 6) hT rfl [] oWPhB16_6 (by decide +kernel) ?_; conv => whnf) | omega | (refine And.intro ?_ ?_; ((try dsimp only); first | omega | (refine szA rfl ?_; omega) | (refine szB rfl ?_; omega) | (unfold inI64; omega) | exact rfl | (simp only [lns] at *; omega) | decide | (unfold inI64; decide)); conv => whnf) | decide | assumption)
   all_goals try (exfalso; omega)
   · refine .ret _ ?_
     conv => whnf
     refine ⟨[], ⟨?_, rfl⟩, trivial⟩
     conv => lhs; whnf
     rw [priE_no (fun q => hb (q.2 i hil).symm)]
   · exact ⟨i + 1, ⟨hil, fun j hj => by
      by_cases q : j = i
      · rw [q]; exact hb.symm
      · exact ha j (by omega)⟩, by omega, Entails.mk' [] rfl rfl ⟨lr, lr, lr, lr, lr, trivial⟩ trivial⟩
 · have hil : i = l.length := by omega
   subst hil
   have hS : priS n l := ⟨by omega, ha⟩
   conv => whnf
   repeat' (first | (refine br_intro ?_ ?_ <;> intro hb <;> (try simp only [brs] at hb) <;> conv => whnf) | (refine RegX.rule (id := 6) hT rfl [] oWPhB16_6 (by decide +kernel) ?_; conv => whnf) | omega | (refine And.intro ?_ ?_; ((try dsimp only); first | omega | (refine szA rfl ?_; omega) | (refine szB rfl ?_; omega) | (unfold inI64; omega) | exact rfl | (simp only [lns] at *; omega) | decide | (unfold inI64; decide)); conv => whnf) | decide | assumption)
   all_goals try (exfalso; omega)
   refine LoopX.rule hT (C := []) (ι := Nat) (fun i => i ≤ l.length ∧ ∀ j, j < i → -10000000 ≤ (l.getD j pr00).cents ∧ (l.getD j pr00).cents ≤ 10000000) (fun i => mkSt [(30, .d (pris l)), (31, .d (.int .i64 l.length)), (32, .d (.int .i64 i))] []) (fun i => l.length - i) 0 ⟨Nat.zero_le _, fun j hj => absurd hj (Nat.not_lt_zero _)⟩ ?_ ?_
   · exact Entails.mk' [] rfl rfl ⟨lr, lr, lr, trivial⟩ trivial
   rintro i ⟨hi, ha⟩
   have hi : i ≤ l.length := hi
   have ha : ∀ j, j < i → -10000000 ≤ (l.getD j pr00).cents ∧ (l.getD j pr00).cents ≤ 10000000 := ha
   rcases Nat.lt_or_ge i l.length with hil | hil
   · conv => whnf
     repeat' (first | (refine CallX.exact (s109 _ _ _) rfl rfl ?_; rotate_right; conv => whnf) | (refine br_intro ?_ ?_ <;> intro hb <;> (try simp only [brs] at hb) <;> conv => whnf) | (refine RegX.rule (id := 6) hT rfl [] oWPhB16_6 (by decide +kernel) ?_; conv => whnf) | omega | (refine And.intro ?_ ?_; ((try dsimp only); first | omega | (refine szA rfl ?_; omega) | (refine szB rfl ?_; omega) | (unfold inI64; omega) | exact rfl | (simp only [lns] at *; omega) | decide | (unfold inI64; decide)); conv => whnf) | decide | assumption)
     all_goals try (exfalso; omega)
     all_goals first
      | (refine .ret _ ?_
         conv => whnf
         refine ⟨[], ⟨?_, rfl⟩, trivial⟩
         conv => lhs; whnf
         rw [priE_one hS (fun q => by have := q i hil; omega)]
         done)
      | exact ⟨i + 1, ⟨hil, fun j hj => by
         by_cases q : j = i
         · rw [q]; omega
         · exact ha j (by omega)⟩, by omega, Entails.mk' [] rfl rfl ⟨lr, lr, lr, trivial⟩ trivial⟩
   · have hil : i = l.length := by omega
     subst hil
     conv => whnf
     repeat' (first | (refine br_intro ?_ ?_ <;> intro hb <;> (try simp only [brs] at hb) <;> conv => whnf) | (refine RegX.rule (id := 6) hT rfl [] oWPhB16_6 (by decide +kernel) ?_; conv => whnf) | omega | (refine And.intro ?_ ?_; ((try dsimp only); first | omega | (refine szA rfl ?_; omega) | (refine szB rfl ?_; omega) | (unfold inI64; omega) | exact rfl | (simp only [lns] at *; omega) | decide | (unfold inI64; decide)); conv => whnf) | decide | assumption)
     all_goals try (exfalso; omega)
     refine .ret _ ?_
     conv => whnf
     refine ⟨[], ⟨?_, rfl⟩, trivial⟩
     conv => lhs; whnf
     rw [priE_ok hS ha]
set_option maxHeartbeats 4000000 in
theorem p26 (n : List Ned) (r : List Roa) (l : List Pri) (hn : ndsE n = 0) (hr : rdsE r = 0) (hp : priE n l = 0) : FSpec Tryd.prog 17 [.d (neds n), .d (roas r), .d (pris l)] [] (fun y q => y = .d (.int .i64 (bouN n r l)) ∧ q = []) := by
 obtain ⟨hS, hB⟩ := priE_zero hp
 have hll := hS.1
 have hnl := (nds_all hn).1
 have hrl := (rds_all hr).1
 have hmn := ned_many hn
 rw [bouN_eq]
 obtain ⟨T, hTd⟩ : ∃ T : Nat → Int, T = fun i => buF n l i - su (fun k => buC n r l k i) n.length := ⟨_, rfl⟩
 rw [← hTd]
 have hcs : ∀ i k, k ≤ n.length → 0 ≤ su (fun k => buC n r l k i) k ∧ su (fun k => buC n r l k i) k ≤ 4000000000 := fun i k hk => by
  have := su_bd (F := fun k => buC n r l k i) (b := 400000000) (n := k) (fun v _ => buC_bd hn hr hB v i)
  omega
 have hTb : ∀ i, -4400000000 ≤ T i ∧ T i ≤ 4400000000 := fun i => by
  have h1 := buF_bd hn hB i
  have h2 := hcs i n.length (Nat.le_refl _)
  rw [hTd]; show -4400000000 ≤ _ - _ ∧ _ - _ ≤ _; omega
 have hTs : ∀ i, i ≤ n.length → -44000000000 ≤ su T i ∧ su T i ≤ 44000000000 := fun i hi => by
  have := su_sb (F := T) (b := 4400000000) (by omega) (n := i) (fun v _ => hTb v)
  omega
 refine spec_of hT (C := []) Tryd.func17 rfl Tryd.call17 rfl rfl rfl ?_
 conv => whnf
 repeat' (first | (refine br_intro ?_ ?_ <;> intro hb <;> (try simp only [brs] at hb) <;> conv => whnf) | (refine RegX.rule (id := 7) hT rfl [] oWPhB17_7 (by decide +kernel) ?_; conv => whnf) | (refine RegX.rule (id := 5) hT rfl [] oWPhB17_5 (by decide +kernel) ?_; conv => whnf) | (refine RegX.rule (id := 13) hT rfl [] oWPhB17_13 (by decide +kernel) ?_; conv => whnf) | omega | (refine And.intro ?_ ?_; ((try dsimp only); first | omega | (refine szA rfl ?_; omega) | (refine szB rfl ?_; omega) | (unfold inI64; omega) | exact rfl | (simp only [lns] at *; omega) | decide | (unfold inI64; decide)); conv => whnf) | decide | assumption)
 refine LoopX.rule hT (C := []) (ι := Nat) (fun i => i ≤ n.length) (fun i => mkSt [(0, .d (neds n)), (1, .d (roas r)), (2, .d (pris l)), (7, .d (.int .i64 (su T i))), (14, .d (neds n)), (15, .d (.int .i64 n.length)), (16, .d (.int .i64 i))] []) (fun i => n.length - i) 0 (Nat.zero_le _) ?_ ?_
 · exact Entails.mk' [] rfl rfl ⟨lr, lr, lr, lr, lr, lr, lr, trivial⟩ trivial
 rintro i hi
 have hi : i ≤ n.length := hi
 have e1 : (i : Int).toNat = i := Int.toNat_natCast i
 rcases Nat.lt_or_ge i n.length with hin | hin
 · have hs1 := hTs i hi
   have hm := hmn i
   have hpb := pc_bd hB i
   unfold manyP at hm
   unfold pc at hpb
   rw [← e1] at hm hpb
   have hF := buF_bd hn hB i
   by_cases hpos : 0 < (n.getD i nd0).many
   · have hv : su T i - (n.getD (i : Int).toNat nd0).many * (max 0 (l.getD (i : Int).toNat pr00).cents) = su T i + buF n l i := by
      rw [e1]
      have w1 : wntF n i = 0 := by unfold wntF manyP; omega
      have w2 : havF n i = (n.getD i nd0).many := by unfold havF manyP; omega
      unfold buF
      rw [w1, w2, Int.zero_mul]; unfold pc; omega
     have hmul := mul_nb (x := (n.getD (i : Int).toNat nd0).many) (y := max 0 (l.getD (i : Int).toNat pr00).cents) (a := 20) (b := 10000000) ⟨by rw [e1]; omega, by omega⟩ ⟨by omega, by omega⟩
     conv => whnf
     repeat' (first | (refine And.intro (show inI64 ((n.getD (i : Int).toNat nd0).many * max 0 (l.getD (i : Int).toNat pr00).cents) by unfold inI64; omega) ?_; conv => whnf) | (refine And.intro (show inI64 (su T i - (n.getD (i : Int).toNat nd0).many * max 0 (l.getD (i : Int).toNat pr00).cents) by unfold inI64; omega) ?_; conv => whnf) | (refine br_intro ?_ ?_ <;> intro hb <;> (try simp only [brs] at hb) <;> conv => whnf) | (refine RegX.rule (id := 7) hT rfl [] oWPhB17_7 (by decide +kernel) ?_; conv => whnf) | (refine RegX.rule (id := 5) hT rfl [] oWPhB17_5 (by decide +kernel) ?_; conv => whnf) | (refine RegX.rule (id := 13) hT rfl [] oWPhB17_13 (by decide +kernel) ?_; conv => whnf) | omega | (refine And.intro ?_ ?_; ((try dsimp only); first | omega | (refine szA rfl ?_; omega) | (refine szB rfl ?_; omega) | (unfold inI64; omega) | exact rfl | (simp only [lns] at *; omega) | decide | (unfold inI64; decide)); conv => whnf) | decide | assumption)
     all_goals try (exfalso; omega)
     refine LoopX.rule hT (C := []) (ι := Nat) (fun k => k ≤ n.length) (fun k => mkSt [(0, .d (neds n)), (1, .d (roas r)), (2, .d (pris l)), (7, .d (.int .i64 (su T i + buF n l i - su (fun k => buC n r l k i) k))), (8, .d (.int .i64 i)), (9, .ptr 9 0), (14, .d (neds n)), (15, .d (.int .i64 n.length)), (16, .d (.int .i64 i)), (47, .d (neds n)), (48, .d (.int .i64 n.length)), (49, .d (.int .i64 k))] [(9, .cells 55 ((ndF (n.getD (i : Int).toNat nd0)).map .d))]) (fun k => n.length - k) 0 (Nat.zero_le _) ?_ ?_
     · exact Entails.mk' [(9, 9)] rfl rfl ⟨lr, lr, lr, SV.le_int (hv.trans (Int.sub_zero _).symm), lr, lr, lr, lr, lr, lr, lr, lr, trivial⟩ ⟨rr, trivial⟩
     rintro k hk
     have hk : k ≤ n.length := hk
     have e2 : (k : Int).toNat = k := Int.toNat_natCast k
     rcases Nat.lt_or_ge k n.length with hkn | hkn
     · have hmk := hmn k
       have hpk := pc_bd hB k
       have hck := hcs i k hk
       have hbc := buC_bd (r := r) hn hr hB k i
       unfold manyP at hmk
       unfold pc at hpk
       rw [← e2] at hmk hpk
       have h113 := z113 r (by omega) (n.getD (k : Int).toNat nd0).st (n.getD (i : Int).toNat nd0).st
       by_cases hcell : (roadO r (n.getD k nd0).st (n.getD i nd0).st).isSome = true ∧ 0 < (n.getD k nd0).many ∧ (n.getD i nd0).many < 0
       · obtain ⟨q1, q2, q3⟩ := hcell
         have hce : arCell n r k i = some ⟨k, i, ((roadO r (n.getD k nd0).st (n.getD i nd0).st).getD rd0).car⟩ := by
          unfold arCell wayO
          rw [if_pos ⟨q2, q3⟩]
          cases hro : roadO r (n.getD k nd0).st (n.getD i nd0).st with
          | none => rw [hro] at q1; cases q1
          | some x => rfl
         have hcar := wayO_bd hr (arCell_some hce).2.2
         have hcar : 0 ≤ ((roadO r (n.getD (k : Int).toNat nd0).st (n.getD (i : Int).toNat nd0).st).getD rd0).car ∧ ((roadO r (n.getD (k : Int).toNat nd0).st (n.getD (i : Int).toNat nd0).st).getD rd0).car ≤ 1000000 := by rw [e1, e2]; exact hcar
         have hW : max 0 ((l.getD (i : Int).toNat pr00).cents - (l.getD (k : Int).toNat pr00).cents - ((roadO r (n.getD (k : Int).toNat nd0).st (n.getD (i : Int).toNat nd0).st).getD rd0).car) * min (n.getD (k : Int).toNat nd0).many (0 - (n.getD (i : Int).toNat nd0).many) = buC n r l k i := by
          rw [e1, e2]
          unfold buC
          rw [hce]
          have w1 : havF n k = (n.getD k nd0).many := by unfold havF manyP; omega
          have w2 : wntF n i = 0 - (n.getD i nd0).many := by unfold wntF manyP; omega
          show _ = buX n l ⟨k, i, _⟩
          unfold buX
          rw [w1, w2]; rfl
         rw [← hW] at hbc
         conv => whnf
         repeat' (first | (refine CallX.exact (h113) rfl rfl ?_; rotate_right; conv => whnf) | (refine And.intro (show inI64 (max 0 ((l.getD (i : Int).toNat pr00).cents - (l.getD (k : Int).toNat pr00).cents - ((roadO r (n.getD (k : Int).toNat nd0).st (n.getD (i : Int).toNat nd0).st).getD rd0).car) * min (n.getD (k : Int).toNat nd0).many (0 - (n.getD (i : Int).toNat nd0).many)) by unfold inI64; omega) ?_; conv => whnf) | (refine And.intro (show inI64 (su T i + buF n l i - su (fun k => buC n r l k i) k - max 0 ((l.getD (i : Int).toNat pr00).cents - (l.getD (k : Int).toNat pr00).cents - ((roadO r (n.getD (k : Int).toNat nd0).st (n.getD (i : Int).toNat nd0).st).getD rd0).car) * min (n.getD (k : Int).toNat nd0).many (0 - (n.getD (i : Int).toNat nd0).many)) by unfold inI64; omega) ?_; conv => whnf) | (refine br_intro ?_ ?_ <;> intro hb <;> (try simp only [brs] at hb) <;> conv => whnf) | (refine RegX.rule (id := 7) hT rfl [] oWPhB17_7 (by decide +kernel) ?_; conv => whnf) | (refine RegX.rule (id := 5) hT rfl [] oWPhB17_5 (by decide +kernel) ?_; conv => whnf) | (refine RegX.rule (id := 13) hT rfl [] oWPhB17_13 (by decide +kernel) ?_; conv => whnf) | omega | (refine And.intro ?_ ?_; ((try dsimp only); first | omega | (refine szA rfl ?_; omega) | (refine szB rfl ?_; omega) | (unfold inI64; omega) | exact rfl | (simp only [lns] at *; omega) | decide | (unfold inI64; decide)); conv => whnf) | decide | assumption)
         all_goals try (exfalso; first | omega | (have hb2 : (roadO r (n.getD k nd0).st (n.getD i nd0).st).isSome = false := hb; rw [q1] at hb2; cases hb2))
         all_goals
          refine ⟨k + 1, hkn, by show n.length - (k + 1) < n.length - k; omega, Entails.mk' [(9, 9)] rfl rfl ⟨lr, lr, lr, SV.le_int ?_, lr, lr, lr, lr, lr, lr, lr, lr, trivial⟩ ⟨rr, trivial⟩⟩
          show su T i + buF n l i - su (fun k => buC n r l k i) k - max 0 ((l.getD (i : Int).toNat pr00).cents - (l.getD (k : Int).toNat pr00).cents - ((roadO r (n.getD (k : Int).toNat nd0).st (n.getD (i : Int).toNat nd0).st).getD rd0).car) * min (n.getD (k : Int).toNat nd0).many (0 - (n.getD (i : Int).toNat nd0).many) = _
          rw [hW, su]; omega
       · have hce : buC n r l k i = 0 := by
          unfold buC
          cases h : arCell n r k i with
          | none => rfl
          | some x =>
            exfalso
            obtain ⟨_, q1, q2⟩ := arCell_some h
            refine hcell ⟨?_, q1⟩
            unfold wayO at q2
            rw [Option.map_eq_some_iff] at q2
            obtain ⟨y, hy, _⟩ := q2
            rw [hy]; rfl
         conv => whnf
         repeat' (first | (refine CallX.exact (h113) rfl rfl ?_; rotate_right; conv => whnf) | (refine br_intro ?_ ?_ <;> intro hb <;> (try simp only [brs] at hb) <;> conv => whnf) | (refine RegX.rule (id := 7) hT rfl [] oWPhB17_7 (by decide +kernel) ?_; conv => whnf) | (refine RegX.rule (id := 5) hT rfl [] oWPhB17_5 (by decide +kernel) ?_; conv => whnf) | (refine RegX.rule (id := 13) hT rfl [] oWPhB17_13 (by decide +kernel) ?_; conv => whnf) | omega | (refine And.intro ?_ ?_; ((try dsimp only); first | omega | (refine szA rfl ?_; omega) | (refine szB rfl ?_; omega) | (unfold inI64; omega) | exact rfl | (simp only [lns] at *; omega) | decide | (unfold inI64; decide)); conv => whnf) | decide | assumption)
         all_goals try (exfalso; first | omega | (refine hcell ⟨?_, ?_, ?_⟩ <;> first | assumption | omega))
         all_goals
          refine ⟨k + 1, hkn, by show n.length - (k + 1) < n.length - k; omega, Entails.mk' [(9, 9)] rfl rfl ⟨lr, lr, lr, SV.le_int ?_, lr, lr, lr, lr, lr, lr, lr, lr, trivial⟩ ⟨rr, trivial⟩⟩
          rw [su, hce]; omega
     · have hkn : k = n.length := by omega
       subst hkn
       conv => whnf
       repeat' (first | (refine br_intro ?_ ?_ <;> intro hb <;> (try simp only [brs] at hb) <;> conv => whnf) | (refine RegX.rule (id := 7) hT rfl [] oWPhB17_7 (by decide +kernel) ?_; conv => whnf) | (refine RegX.rule (id := 5) hT rfl [] oWPhB17_5 (by decide +kernel) ?_; conv => whnf) | (refine RegX.rule (id := 13) hT rfl [] oWPhB17_13 (by decide +kernel) ?_; conv => whnf) | omega | (refine And.intro ?_ ?_; ((try dsimp only); first | omega | (refine szA rfl ?_; omega) | (refine szB rfl ?_; omega) | (unfold inI64; omega) | exact rfl | (simp only [lns] at *; omega) | decide | (unfold inI64; decide)); conv => whnf) | decide | assumption)
       all_goals try (exfalso; omega)
       refine ⟨i + 1, hin, by show n.length - (i + 1) < n.length - i; omega, Entails.mk' [] rfl rfl ⟨lr, lr, lr, SV.le_int ?_, lr, lr, lr, trivial⟩ trivial⟩
       have hTi : T i = buF n l i - su (fun k => buC n r l k i) n.length := by rw [hTd]
       show _ = su T i + T i
       rw [hTi]; omega
   · have hv : su T i + (0 - (n.getD (i : Int).toNat nd0).many) * (l.getD (i : Int).toNat pr00).cents = su T i + buF n l i := by
      rw [e1]
      have w1 : wntF n i = 0 - (n.getD i nd0).many := by unfold wntF manyP; omega
      have w2 : havF n i = 0 := by unfold havF manyP; omega
      unfold buF
      rw [w1, w2, Int.zero_mul]; unfold pc; omega
     have hmul := mul_bd (x := 0 - (n.getD (i : Int).toNat nd0).many) (y := (l.getD (i : Int).toNat pr00).cents) (a := 20) (b := 10000000) ⟨by rw [e1]; omega, by omega⟩ ⟨by omega, by omega⟩
     conv => whnf
     repeat' (first | (refine And.intro (show inI64 ((0 - (n.getD (i : Int).toNat nd0).many) * (l.getD (i : Int).toNat pr00).cents) by unfold inI64; omega) ?_; conv => whnf) | (refine And.intro (show inI64 (su T i + (0 - (n.getD (i : Int).toNat nd0).many) * (l.getD (i : Int).toNat pr00).cents) by unfold inI64; omega) ?_; conv => whnf) | (refine br_intro ?_ ?_ <;> intro hb <;> (try simp only [brs] at hb) <;> conv => whnf) | (refine RegX.rule (id := 7) hT rfl [] oWPhB17_7 (by decide +kernel) ?_; conv => whnf) | (refine RegX.rule (id := 5) hT rfl [] oWPhB17_5 (by decide +kernel) ?_; conv => whnf) | (refine RegX.rule (id := 13) hT rfl [] oWPhB17_13 (by decide +kernel) ?_; conv => whnf) | omega | (refine And.intro ?_ ?_; ((try dsimp only); first | omega | (refine szA rfl ?_; omega) | (refine szB rfl ?_; omega) | (unfold inI64; omega) | exact rfl | (simp only [lns] at *; omega) | decide | (unfold inI64; decide)); conv => whnf) | decide | assumption)
     all_goals try (exfalso; omega)
     refine LoopX.rule hT (C := []) (ι := Nat) (fun k => k ≤ n.length) (fun k => mkSt [(0, .d (neds n)), (1, .d (roas r)), (2, .d (pris l)), (7, .d (.int .i64 (su T i + buF n l i - su (fun k => buC n r l k i) k))), (8, .d (.int .i64 i)), (9, .ptr 9 0), (14, .d (neds n)), (15, .d (.int .i64 n.length)), (16, .d (.int .i64 i)), (47, .d (neds n)), (48, .d (.int .i64 n.length)), (49, .d (.int .i64 k))] [(9, .cells 55 ((ndF (n.getD (i : Int).toNat nd0)).map .d))]) (fun k => n.length - k) 0 (Nat.zero_le _) ?_ ?_
     · exact Entails.mk' [(9, 9)] rfl rfl ⟨lr, lr, lr, SV.le_int (hv.trans (Int.sub_zero _).symm), lr, lr, lr, lr, lr, lr, lr, lr, trivial⟩ ⟨rr, trivial⟩
     rintro k hk
     have hk : k ≤ n.length := hk
     have e2 : (k : Int).toNat = k := Int.toNat_natCast k
     rcases Nat.lt_or_ge k n.length with hkn | hkn
     · have hmk := hmn k
       have hpk := pc_bd hB k
       have hck := hcs i k hk
       have hbc := buC_bd (r := r) hn hr hB k i
       unfold manyP at hmk
       unfold pc at hpk
       rw [← e2] at hmk hpk
       have h113 := z113 r (by omega) (n.getD (k : Int).toNat nd0).st (n.getD (i : Int).toNat nd0).st
       by_cases hcell : (roadO r (n.getD k nd0).st (n.getD i nd0).st).isSome = true ∧ 0 < (n.getD k nd0).many ∧ (n.getD i nd0).many < 0
       · obtain ⟨q1, q2, q3⟩ := hcell
         have hce : arCell n r k i = some ⟨k, i, ((roadO r (n.getD k nd0).st (n.getD i nd0).st).getD rd0).car⟩ := by
          unfold arCell wayO
          rw [if_pos ⟨q2, q3⟩]
          cases hro : roadO r (n.getD k nd0).st (n.getD i nd0).st with
          | none => rw [hro] at q1; cases q1
          | some x => rfl
         have hcar := wayO_bd hr (arCell_some hce).2.2
         have hcar : 0 ≤ ((roadO r (n.getD (k : Int).toNat nd0).st (n.getD (i : Int).toNat nd0).st).getD rd0).car ∧ ((roadO r (n.getD (k : Int).toNat nd0).st (n.getD (i : Int).toNat nd0).st).getD rd0).car ≤ 1000000 := by rw [e1, e2]; exact hcar
         have hW : max 0 ((l.getD (i : Int).toNat pr00).cents - (l.getD (k : Int).toNat pr00).cents - ((roadO r (n.getD (k : Int).toNat nd0).st (n.getD (i : Int).toNat nd0).st).getD rd0).car) * min (n.getD (k : Int).toNat nd0).many (0 - (n.getD (i : Int).toNat nd0).many) = buC n r l k i := by
          rw [e1, e2]
          unfold buC
          rw [hce]
          have w1 : havF n k = (n.getD k nd0).many := by unfold havF manyP; omega
          have w2 : wntF n i = 0 - (n.getD i nd0).many := by unfold wntF manyP; omega
          show _ = buX n l ⟨k, i, _⟩
          unfold buX
          rw [w1, w2]; rfl
         rw [← hW] at hbc
         conv => whnf
         repeat' (first | (refine CallX.exact (h113) rfl rfl ?_; rotate_right; conv => whnf) | (refine And.intro (show inI64 (max 0 ((l.getD (i : Int).toNat pr00).cents - (l.getD (k : Int).toNat pr00).cents - ((roadO r (n.getD (k : Int).toNat nd0).st (n.getD (i : Int).toNat nd0).st).getD rd0).car) * min (n.getD (k : Int).toNat nd0).many (0 - (n.getD (i : Int).toNat nd0).many)) by unfold inI64; omega) ?_; conv => whnf) | (refine And.intro (show inI64 (su T i + buF n l i - su (fun k => buC n r l k i) k - max 0 ((l.getD (i : Int).toNat pr00).cents - (l.getD (k : Int).toNat pr00).cents - ((roadO r (n.getD (k : Int).toNat nd0).st (n.getD (i : Int).toNat nd0).st).getD rd0).car) * min (n.getD (k : Int).toNat nd0).many (0 - (n.getD (i : Int).toNat nd0).many)) by unfold inI64; omega) ?_; conv => whnf) | (refine br_intro ?_ ?_ <;> intro hb <;> (try simp only [brs] at hb) <;> conv => whnf) | (refine RegX.rule (id := 7) hT rfl [] oWPhB17_7 (by decide +kernel) ?_; conv => whnf) | (refine RegX.rule (id := 5) hT rfl [] oWPhB17_5 (by decide +kernel) ?_; conv => whnf) | (refine RegX.rule (id := 13) hT rfl [] oWPhB17_13 (by decide +kernel) ?_; conv => whnf) | omega | (refine And.intro ?_ ?_; ((try dsimp only); first | omega | (refine szA rfl ?_; omega) | (refine szB rfl ?_; omega) | (unfold inI64; omega) | exact rfl | (simp only [lns] at *; omega) | decide | (unfold inI64; decide)); conv => whnf) | decide | assumption)
         all_goals try (exfalso; first | omega | (have hb2 : (roadO r (n.getD k nd0).st (n.getD i nd0).st).isSome = false := hb; rw [q1] at hb2; cases hb2))
         all_goals
          refine ⟨k + 1, hkn, by show n.length - (k + 1) < n.length - k; omega, Entails.mk' [(9, 9)] rfl rfl ⟨lr, lr, lr, SV.le_int ?_, lr, lr, lr, lr, lr, lr, lr, lr, trivial⟩ ⟨rr, trivial⟩⟩
          show su T i + buF n l i - su (fun k => buC n r l k i) k - max 0 ((l.getD (i : Int).toNat pr00).cents - (l.getD (k : Int).toNat pr00).cents - ((roadO r (n.getD (k : Int).toNat nd0).st (n.getD (i : Int).toNat nd0).st).getD rd0).car) * min (n.getD (k : Int).toNat nd0).many (0 - (n.getD (i : Int).toNat nd0).many) = _
          rw [hW, su]; omega
       · have hce : buC n r l k i = 0 := by
          unfold buC
          cases h : arCell n r k i with
          | none => rfl
          | some x =>
            exfalso
            obtain ⟨_, q1, q2⟩ := arCell_some h
            refine hcell ⟨?_, q1⟩
            unfold wayO at q2
            rw [Option.map_eq_some_iff] at q2
            obtain ⟨y, hy, _⟩ := q2
            rw [hy]; rfl
         conv => whnf
         repeat' (first | (refine CallX.exact (h113) rfl rfl ?_; rotate_right; conv => whnf) | (refine br_intro ?_ ?_ <;> intro hb <;> (try simp only [brs] at hb) <;> conv => whnf) | (refine RegX.rule (id := 7) hT rfl [] oWPhB17_7 (by decide +kernel) ?_; conv => whnf) | (refine RegX.rule (id := 5) hT rfl [] oWPhB17_5 (by decide +kernel) ?_; conv => whnf) | (refine RegX.rule (id := 13) hT rfl [] oWPhB17_13 (by decide +kernel) ?_; conv => whnf) | omega | (refine And.intro ?_ ?_; ((try dsimp only); first | omega | (refine szA rfl ?_; omega) | (refine szB rfl ?_; omega) | (unfold inI64; omega) | exact rfl | (simp only [lns] at *; omega) | decide | (unfold inI64; decide)); conv => whnf) | decide | assumption)
         all_goals try (exfalso; first | omega | (refine hcell ⟨?_, ?_, ?_⟩ <;> first | assumption | omega))
         all_goals
          refine ⟨k + 1, hkn, by show n.length - (k + 1) < n.length - k; omega, Entails.mk' [(9, 9)] rfl rfl ⟨lr, lr, lr, SV.le_int ?_, lr, lr, lr, lr, lr, lr, lr, lr, trivial⟩ ⟨rr, trivial⟩⟩
          rw [su, hce]; omega
     · have hkn : k = n.length := by omega
       subst hkn
       conv => whnf
       repeat' (first | (refine br_intro ?_ ?_ <;> intro hb <;> (try simp only [brs] at hb) <;> conv => whnf) | (refine RegX.rule (id := 7) hT rfl [] oWPhB17_7 (by decide +kernel) ?_; conv => whnf) | (refine RegX.rule (id := 5) hT rfl [] oWPhB17_5 (by decide +kernel) ?_; conv => whnf) | (refine RegX.rule (id := 13) hT rfl [] oWPhB17_13 (by decide +kernel) ?_; conv => whnf) | omega | (refine And.intro ?_ ?_; ((try dsimp only); first | omega | (refine szA rfl ?_; omega) | (refine szB rfl ?_; omega) | (unfold inI64; omega) | exact rfl | (simp only [lns] at *; omega) | decide | (unfold inI64; decide)); conv => whnf) | decide | assumption)
       all_goals try (exfalso; omega)
       refine ⟨i + 1, hin, by show n.length - (i + 1) < n.length - i; omega, Entails.mk' [] rfl rfl ⟨lr, lr, lr, SV.le_int ?_, lr, lr, lr, trivial⟩ trivial⟩
       have hTi : T i = buF n l i - su (fun k => buC n r l k i) n.length := by rw [hTd]
       show _ = su T i + T i
       rw [hTi]; omega
 · have hin : i = n.length := by omega
   subst hin
   conv => whnf
   repeat' (first | (refine br_intro ?_ ?_ <;> intro hb <;> (try simp only [brs] at hb) <;> conv => whnf) | (refine RegX.rule (id := 7) hT rfl [] oWPhB17_7 (by decide +kernel) ?_; conv => whnf) | (refine RegX.rule (id := 5) hT rfl [] oWPhB17_5 (by decide +kernel) ?_; conv => whnf) | (refine RegX.rule (id := 13) hT rfl [] oWPhB17_13 (by decide +kernel) ?_; conv => whnf) | omega | (refine And.intro ?_ ?_; ((try dsimp only); first | omega | (refine szA rfl ?_; omega) | (refine szB rfl ?_; omega) | (unfold inI64; omega) | exact rfl | (simp only [lns] at *; omega) | decide | (unfold inI64; decide)); conv => whnf) | decide | assumption)
   all_goals try (exfalso; omega)
   refine .ret _ ?_
   conv => whnf
   refine ⟨[], ⟨?_, rfl⟩, trivial⟩
   conv => lhs; whnf
def mvP (l : List Mov) : Prop := l.length ≤ 2500 ∧ ∀ m ∈ l, 0 ≤ m.many ∧ m.many ≤ 1000000
def mcst (r : List Roa) (m : Mov) : Int := m.many * ((roadO r m.a m.b).getD rd0).car
theorem costN_su (r : List Roa) (l : List Mov) : ∀ k, costN r l k = su (fun i => mcst r (l.getD i mv0)) k
 | 0 => rfl
 | k + 1 => by rw [costN, costN_su r l k]; rfl
theorem costN_lsm (r : List Roa) (l : List Mov) : costN r l l.length = lsm (mcst r) l := by rw [costN_su, lsm_su]
theorem costN_b2 {r : List Roa} {l : List Mov} (hr : rdsE r = 0) (h : mvP l) : ∀ k, k ≤ l.length → 0 ≤ costN r l k ∧ costN r l k ≤ 1000000000000 * k := by
 intro k
 induction k with
 | zero => intro _; simp [costN]
 | succ k ih =>
   intro hk
   have h1 := ih (by omega)
   have h2 := h.2 _ (getD_mem (l := l) (x := mv0) (i := k) (by omega))
   have h3 := roadC_bd hr (l.getD k mv0).a (l.getD k mv0).b
   have h4 := mul_nb h2 h3
   rw [costN]
   omega
set_option maxHeartbeats 4000000 in
theorem p17 (r : List Roa) (l : List Mov) (hr : rdsE r = 0) (hl : mvP l) : FSpec Tryd.prog 18 [.d (roas r), .d (movs l)] [] (fun y q => y = .d (.int .i64 (costN r l l.length)) ∧ q = []) := by
 have hrl := (rds_all hr).1
 have hll := hl.1
 refine spec_of hT (C := []) Tryd.func18 rfl Tryd.call18 rfl rfl rfl ?_
 conv => whnf
 repeat' (first | (refine br_intro ?_ ?_ <;> intro hb <;> (try simp only [brs] at hb) <;> conv => whnf) | omega | (refine And.intro ?_ ?_; ((try dsimp only); first | omega | (refine szA rfl ?_; omega) | (refine szB rfl ?_; omega) | (unfold inI64; omega) | exact rfl | (simp only [lns] at *; omega) | decide | (unfold inI64; decide)); conv => whnf) | decide | assumption)
 refine LoopX.rule hT (C := []) (ι := Nat) (fun i => i ≤ l.length) (fun i => mkSt [(0, .d (roas r)), (5, .d (.int .i64 (costN r l i))), (10, .d (movs l)), (11, .d (.int .i64 l.length)), (12, .d (.int .i64 i))] []) (fun i => l.length - i) 0 (Nat.zero_le _) ?_ ?_
 · exact Entails.mk' [] rfl rfl ⟨lr, lr, lr, lr, lr, trivial⟩ trivial
 rintro i hi
 have hi : i ≤ l.length := hi
 have e1 : (i : Int).toNat = i := Int.toNat_natCast i
 have hb1 := costN_b2 hr hl i hi
 rcases Nat.lt_or_ge i l.length with hil | hil
 · have h2 := hl.2 _ (getD_mem (l := l) (x := mv0) (i := (i : Int).toNat) (by omega))
   have h3 := roadC_bd hr (l.getD (i : Int).toNat mv0).a (l.getD (i : Int).toNat mv0).b
   have h4 := mul_nb h2 h3
   have h113 := z113 r (by omega) (l.getD (i : Int).toNat mv0).a (l.getD (i : Int).toNat mv0).b
   conv => whnf
   repeat' (first | (refine CallX.exact (h113) rfl rfl ?_; rotate_right; conv => whnf) | (refine And.intro (show inI64 ((l.getD (i : Int).toNat mv0).many * ((roadO r (l.getD (i : Int).toNat mv0).a (l.getD (i : Int).toNat mv0).b).getD rd0).car) by unfold inI64; omega) ?_; conv => whnf) | (refine And.intro (show inI64 (costN r l i + (l.getD (i : Int).toNat mv0).many * ((roadO r (l.getD (i : Int).toNat mv0).a (l.getD (i : Int).toNat mv0).b).getD rd0).car) by unfold inI64; omega) ?_; conv => whnf) | (refine br_intro ?_ ?_ <;> intro hb <;> (try simp only [brs] at hb) <;> conv => whnf) | omega | (refine And.intro ?_ ?_; ((try dsimp only); first | omega | (refine szA rfl ?_; omega) | (refine szB rfl ?_; omega) | (unfold inI64; omega) | exact rfl | (simp only [lns] at *; omega) | decide | (unfold inI64; decide)); conv => whnf) | decide | assumption)
   all_goals try (exfalso; omega)
   exact ⟨i + 1, hil, by show l.length - (i + 1) < l.length - i; omega, Entails.mk' [] rfl rfl ⟨lr, lr, lr, lr, lr, trivial⟩ trivial⟩
 · have hil : i = l.length := by omega
   subst hil
   conv => whnf
   repeat' (first | (refine br_intro ?_ ?_ <;> intro hb <;> (try simp only [brs] at hb) <;> conv => whnf) | omega | (refine And.intro ?_ ?_; ((try dsimp only); first | omega | (refine szA rfl ?_; omega) | (refine szB rfl ?_; omega) | (unfold inI64; omega) | exact rfl | (simp only [lns] at *; omega) | decide | (unfold inI64; decide)); conv => whnf) | decide | assumption)
   all_goals try (exfalso; omega)
   refine .ret _ ?_
   conv => whnf
   refine ⟨[], ⟨?_, rfl⟩, trivial⟩
   conv => lhs; whnf
theorem lsm_lsV {n : List Ned} {r : List Roa} : ∀ (m a : Nat) (x : Nat → Int), a + m ≤ (nwG n r).K → (∀ k, k < m → 0 ≤ x k) → lsm (mcst r) (lsV (mvN n r) m a x) = su (fun k => x k * (nwG n r).c (a + k)) m
 | 0, _, _, _, _ => rfl
 | m + 1, a, x, ha, hx => by
   have ih := lsm_lsV (n := n) (r := r) m (a + 1) (vtl x) (by omega) (fun k hk => hx (k + 1) (by omega))
   have hm := (arL_mem (nwG_at (n := n) (r := r) (k := a) (by omega))).2.2
   have hc : ((roadO r (n.getD ((arL n r).getD a a30).fr nd0).st (n.getD ((arL n r).getD a a30).to nd0).st).getD rd0).car = (nwG n r).c a := by
    unfold wayO at hm
    rw [Option.map_eq_some_iff] at hm
    obtain ⟨y, hy, e⟩ := hm
    rw [hy]; exact e
   rw [lsV, lsm_app, ih, su_cons]
   have e2 : su (fun k => vtl x k * (nwG n r).c (a + 1 + k)) m = su (fun k => x (k + 1) * (nwG n r).c (a + (k + 1))) m := su_congr fun k _ => by
    show x (k + 1) * _ = _
    rw [show a + 1 + k = a + (k + 1) by omega]
   rw [e2]
   congr 1
   have h0 := hx 0 (by omega)
   by_cases q : 0 < x 0
   · rw [if_pos q]
     show (List.map (mcst r) [mvN n r a (x 0)]).sum = _
     simp only [List.map_cons, List.map_nil, List.sum_cons, List.sum_nil, Int.add_zero]
     show x 0 * _ = x 0 * (nwG n r).c (a + 0)
     rw [Nat.add_zero, ← hc]; rfl
   · rw [if_neg q]
     have : x 0 = 0 := by omega
     rw [this, Int.zero_mul]; rfl
theorem best_cost {n : List Ned} {r : List Roa} {c : Int} {x : Nat → Int} {h w : Nat → Int} (hb : (nwG n r).Best (kindB n) h w c x) : costN r (lsV (mvN n r) (nwG n r).K 0 x) (lsV (mvN n r) (nwG n r).K 0 x).length = c := by
 rw [costN_lsm, lsm_lsV _ _ _ (by omega) hb.fl.g0, ← hb.cost]
 exact su_congr fun k _ => by rw [Nat.zero_add]
theorem lsV_pos {n : List Ned} {r : List Roa} : ∀ (m a : Nat) (x : Nat → Int), ∀ y ∈ lsV (mvN n r) m a x, 0 < y.many
 | 0, _, _, y, hy => by cases hy
 | m + 1, a, x, y, hy => by
   rw [lsV] at hy
   rcases List.mem_append.1 hy with z | z
   · split at z
     · rename_i q
       have : y = mvN n r a (x 0) := by simpa using z
       rw [this]; exact q
     · cases z
   · exact lsV_pos m (a + 1) (vtl x) y z
theorem prove_pof {n : List Ned} {r : List Roa} {M : PMap Mov} {l : List Pri} {e : Int} (hn : ndsE n = 0) (hr : rdsE r = 0) (h : NowI n r n.length M) (hp : PriceR n r l e) :
 (e = 0 ∧ priE n l = 0 ∧ ∃ q, M (List.replicate (wanS n n.length).length 0) = some q ∧ mvP q.l ∧ bouN n r l = costN r q.l q.l.length) ∨ (e = 12 ∧ l = [] ∧ M (List.replicate (wanS n n.length).length 0) = none) := by
 have hb := pof_best hn hr h
 have hnl := (nds_all hn).1
 rcases hp with ⟨h0, _, _⟩ | ⟨_, ⟨h1, h2, h3⟩ | ⟨⟨f, left, y, h1, h2, h3, h4, rfl⟩, h5⟩⟩
 · rw [hn, hr] at h0; exact absurd rfl h0
 · right
   refine ⟨h2, h3, ?_⟩
   cases hM : M (List.replicate (wanS n n.length).length 0) with
   | none => rfl
   | some q =>
     rw [hM] at hb
     obtain ⟨x, hx, _⟩ := hb
     exact absurd hx.fl (h1 x)
 · left
   have hlen := priL_len n y n.length
   have hget : ∀ i, i < n.length → (priL n y n.length).getD i pr00 = ⟨(n.getD i nd0).st, if (n.getD i nd0).many ≠ 0 then y i else 0⟩ := fun i hi => by
    unfold priL
    rw [List.getD_eq_getElem?_getD, List.getElem?_map, List.getElem?_range hi]; rfl
   refine ⟨h5, priE_ok ⟨hlen.symm, fun i hi => by rw [hget i (by omega)]⟩ (fun i hi => ?_), ?_⟩
   · rw [hget i (by omega)]
     have := h4 i (by omega)
     show -10000000 ≤ (if (n.getD i nd0).many ≠ 0 then y i else 0) ∧ (if (n.getD i nd0).many ≠ 0 then y i else 0) ≤ 10000000
     split <;> omega
   · obtain ⟨⟨g, hg, hgc⟩, hle⟩ := h2
     cases hM : M (List.replicate (wanS n n.length).length 0) with
     | none => rw [hM] at hb; exact absurd hg (hb g)
     | some q =>
       rw [hM] at hb
       obtain ⟨x, hx, hl⟩ := hb
       have hbnd := h.bnd _ _ hM
       have b3 := wanS_len n n.length
       have b4 : n.length * (wanS n n.length).length ≤ 10 * 10 := Nat.mul_le_mul hnl (by omega)
       refine ⟨q, rfl, ⟨by have := hbnd.1.1; omega, fun m hm => ⟨?_, (hbnd.1.2 m hm).2⟩⟩, ?_⟩
       · rw [hl] at hm
         have := lsV_pos _ _ _ m hm
         omega
       · rw [bouN_prc hn hr h1 h3, hl, best_cost hx]
         have e1 := hle x hx.fl
         have e2 := hx.le g hg
         rw [hgc] at e2
         rw [hx.cost] at e1
         omega
set_option maxHeartbeats 4000000 in
theorem z4 (n : Nat) (L : Nat → Int) (hn : n ≤ maxLen) (hl : ∀ i, -2^63 ≤ L i ∧ L i < 2^63) : FSpec Tryd.prog 4 [.d (.ro 1 n fun i => [.int .i64 (L i)])] [] (fun x r => x = .d (.bool true) ∧ r = []) := by
 have hL : Rok n L := ⟨hn, hl⟩
 refine spec_of hT (C := []) Tryd.func4 rfl Tryd.call4 rfl rfl rfl ?_
 conv => whnf
 repeat' (first | (refine CallX.of (sNds n L hL _ ?_ ?_ ) [(1000000, 14)] rfl ⟨lr, trivial⟩ ⟨rr, trivial⟩ rfl rfl ?_; rotate_right; rintro x rout ⟨⟨N, hN, rfl⟩, ⟨c, c1, c2, rfl⟩⟩; refine ⟨rfl, ?_⟩; conv => whnf) | (refine CallX.of (sRds n L hL _ ?_ ?_ ) [(1000000, 14)] rfl ⟨lr, trivial⟩ ⟨rr, trivial⟩ rfl rfl ?_; rotate_right; rintro x rout ⟨⟨R, hR, rfl⟩, ⟨c, c1, c2, rfl⟩⟩; refine ⟨rfl, ?_⟩; conv => whnf) | (refine br_intro ?_ ?_ <;> intro hb <;> (try simp only [brs] at hb) <;> conv => whnf) | omega | (refine And.intro ?_ ?_; ((try dsimp only); first | omega | (refine szA rfl ?_; omega) | (refine szB rfl ?_; omega) | (unfold inI64; omega) | exact rfl | (simp only [lns] at *; omega) | decide | (unfold inI64; decide)); conv => whnf) | decide | assumption)
 have hnd := ndOk_of hN
 have hrd := rdOk_of hR
 obtain ⟨E0, hE0⟩ : ∃ e, firstE [ndsE N, rdsE R] = e := ⟨_, rfl⟩
 have h17 := s17 [ndsE N, rdsE R] (by simp)
 rw [hE0] at h17
 have h20 := z20 N hnd
 have h21 := z21 R hrd
 by_cases h0 : E0 = 0
 · obtain ⟨h1, h2⟩ := firstE_two (hE0.trans h0)
   subst h0
   repeat' (first | (refine CallX.of (p22 N R hnd hrd) [] rfl ⟨lr, lr, trivial⟩ trivial rfl rfl ?_; rintro x rout ⟨⟨l, e, rfl, hP⟩, rfl⟩; refine ⟨rfl, ?_⟩; conv => whnf) | (refine CallX.exact (h20) rfl rfl ?_; rotate_right; conv => whnf) | (refine CallX.exact (h21) rfl rfl ?_; rotate_right; conv => whnf) | (refine CallX.pure h17 ⟨SV.le_lit (by rfl) (by rfl), trivial⟩ rfl ?_; conv => whnf) | (refine CallX.of (p35 N R h1 h2) [] rfl ⟨lr, lr, trivial⟩ trivial rfl rfl ?_; rintro x rout ⟨⟨M, hM, hx⟩, rfl⟩; conv => whnf) | (refine br_intro ?_ ?_ <;> intro hb <;> (try simp only [brs] at hb) <;> conv => whnf) | omega | (refine And.intro ?_ ?_; ((try dsimp only); first | omega | (refine szA rfl ?_; omega) | (refine szB rfl ?_; omega) | (unfold inI64; omega) | exact rfl | (simp only [lns] at *; omega) | decide | (unfold inI64; decide)); conv => whnf) | decide | assumption)
   rcases prove_pof h1 h2 hM hP with ⟨rfl, hpe, q, hq, hmv, hbc⟩ | ⟨rfl, rfl, hq⟩
   · rw [hq] at hx
     have hx : x = .tup [.d (movs q.l), .d (.bool true)] := hx
     subst hx
     have hll := (priE_zero hpe).1.1
     have hnl := (nds_all h1).1
     have h25 := p25 N l (by omega) (by omega)
     rw [hpe] at h25
     have h26 := p26 N R l h1 h2 hpe
     rw [hbc] at h26
     have h18 := p17 R q.l h2 hmv
     obtain ⟨c, hc⟩ : ∃ c, costN R q.l q.l.length = c := ⟨_, rfl⟩
     rw [hc] at h26 h18
     refine ⟨rfl, ?_⟩
     conv => whnf
     repeat' (first | (refine CallX.exact (p12f 12) rfl rfl ?_; rotate_right; conv => whnf) | (refine CallX.exact (h25) rfl rfl ?_; rotate_right; conv => whnf) | (refine CallX.exact (h26) rfl rfl ?_; rotate_right; conv => whnf) | (refine CallX.exact (h18) rfl rfl ?_; rotate_right; conv => whnf) | (refine CallX.exact (p19) rfl rfl ?_; rotate_right; conv => whnf) | (refine br_intro ?_ ?_ <;> intro hb <;> (try simp only [brs] at hb) <;> conv => whnf) | omega | (refine And.intro ?_ ?_; ((try dsimp only); first | omega | (refine szA rfl ?_; omega) | (refine szB rfl ?_; omega) | (unfold inI64; omega) | exact rfl | (simp only [lns] at *; omega) | decide | (unfold inI64; decide)); conv => whnf) | decide | assumption)
     all_goals try (exfalso; omega)
     refine .ret _ ?_
     conv => whnf
     refine ⟨[], ⟨?_, rfl⟩, trivial⟩
     conv => lhs; whnf
   · rw [hq] at hx
     have hx : x = .tup [.d (movs []), .d (.bool false)] := hx
     subst hx
     refine ⟨rfl, ?_⟩
     conv => whnf
     repeat' (first | (refine CallX.exact (p12t 12) rfl rfl ?_; rotate_right; conv => whnf) | (refine CallX.exact (p19) rfl rfl ?_; rotate_right; conv => whnf) | (refine br_intro ?_ ?_ <;> intro hb <;> (try simp only [brs] at hb) <;> conv => whnf) | omega | (refine And.intro ?_ ?_; ((try dsimp only); first | omega | (refine szA rfl ?_; omega) | (refine szB rfl ?_; omega) | (unfold inI64; omega) | exact rfl | (simp only [lns] at *; omega) | decide | (unfold inI64; decide)); conv => whnf) | decide | assumption)
     all_goals try (exfalso; omega)
     refine .ret _ ?_
     conv => whnf
     refine ⟨[], ⟨?_, rfl⟩, trivial⟩
     conv => lhs; whnf
 · have hne : ∀ l e, PriceR N R l e → e = E0 ∧ l = [] := fun l e hP => by
    rcases hP with ⟨_, q1, q2⟩ | ⟨⟨q1, q2⟩, _⟩
    · exact ⟨q1.trans hE0, q2⟩
    · rw [q1, q2] at hE0; exact absurd hE0.symm h0
   repeat' (first | (refine CallX.of (p22 N R hnd hrd) [] rfl ⟨lr, lr, trivial⟩ trivial rfl rfl ?_; rintro x rout ⟨⟨l, e, rfl, hP⟩, rfl⟩; obtain ⟨rfl, rfl⟩ := hne l e hP; refine ⟨rfl, ?_⟩; conv => whnf) | (refine CallX.exact (h20) rfl rfl ?_; rotate_right; conv => whnf) | (refine CallX.exact (h21) rfl rfl ?_; rotate_right; conv => whnf) | (refine CallX.pure h17 ⟨SV.le_lit (by rfl) (by rfl), trivial⟩ rfl ?_; conv => whnf) | (refine CallX.exact (p19) rfl rfl ?_; rotate_right; conv => whnf) | (refine br_intro ?_ ?_ <;> intro hb <;> (try simp only [brs] at hb) <;> conv => whnf) | omega | (refine And.intro ?_ ?_; ((try dsimp only); first | omega | (refine szA rfl ?_; omega) | (refine szB rfl ?_; omega) | (unfold inI64; omega) | exact rfl | (simp only [lns] at *; omega) | decide | (unfold inI64; decide)); conv => whnf) | decide | assumption)
   all_goals try (exfalso; omega)
   refine .ret _ ?_
   conv => whnf
   refine ⟨[], ⟨?_, rfl⟩, trivial⟩
   conv => lhs; whnf
end Go.Proofs.YteehenjdddlnnaaDoor
