/- PlansCheck is proved: for every input the law returns true, and its argument reads afterwards as it read before. Conditions: those of the given row alone. -/
import Derived.Test.YteehenjdddlnnaaGreatDoorPckConTwo
import Derived.Test.YteehenjdddlnnaaGreatDoorPckConOne
set_option linter.unusedVariables false
set_option linter.unusedSimpArgs false
set_option maxRecDepth 20000
namespace Go.Proofs.YteehenjdddlnnaaGreatDoor
open Go Go.Eng
def oVPiD8_11 : List (Nat × List Nat) := [(0, []), (1, [0]), (2, [0, 1]), (3, [0, 1]), (8, [0, 1, 2, 3]), (9, [0, 1, 2, 3, 8]), (4, [0, 8, 9]), (5, [8, 9]), (6, [8, 9]), (7, [8, 9]), (10, [0, 5, 6, 7]), (11, []), (12, []), (13, []), (14, [])]
def oVPiD8_16 : List (Nat × List Nat) := [(0, []), (1, [0]), (2, [0, 1]), (4, [0, 1, 2]), (5, [0, 1, 2, 4]), (7, [0, 1, 2, 4, 5]), (8, [0, 1, 2, 4, 5, 7]), (3, [0, 4, 5, 7, 8]), (6, [0, 7, 8]), (9, [0]), (10, [0]), (11, [0]), (12, []), (13, [])]
def oVPiD8_23 : List (Nat × List Nat) := [(0, []), (1, [0]), (2, [0, 1]), (3, [0, 1, 2]), (4, [0, 1, 2]), (5, [0, 1, 2]), (6, [0, 1, 2]), (7, [0, 1, 2]), (9, [0, 1, 2, 3, 4, 5, 6, 7]), (8, [0, 1, 9]), (10, [0, 1]), (11, [1]), (12, [1]), (13, [1]), (14, []), (15, []), (16, [])]
theorem p33 (l : List Roa) (hl : l.length ≤ 2^20) : FSpec Tryz.prog 33 [.d (roas l)] [] (fun y r => y = .buf 7 ∧ r = [(7, rdB l)]) := by
 refine spec_of hT (C := [5]) Tryz.func33 rfl Tryz.call33 rfl rfl rfl ?_
 conv => whnf
 rintro b hbn
 conv => whnf
 repeat' (first | (refine br_intro ?_ ?_ <;> intro hb <;> (try simp only [brs] at hb) <;> conv => whnf) | omega | (refine And.intro ?_ ?_; ((try dsimp only); first | omega | (refine szA rfl ?_; omega) | (refine szB rfl ?_; omega) | (unfold inI64; omega) | exact rfl | (simp only [lns] at *; omega) | decide | (unfold inI64; decide)); conv => whnf) | decide | assumption)
 · have h0 : l = [] := List.eq_nil_of_length_eq_zero (hbn (by assumption))
   subst h0
   refine .ent _ _ (Entails.nil 2 7 64 4 (rowF rdF rd0 []) rfl rfl (by decide)) (.ret _ ?_)
   conv => whnf
   exact ⟨_, ⟨rfl, rfl⟩, rr, trivial⟩
 · refine .ret _ ?_
   conv => whnf
   refine ⟨_, ⟨rfl, rfl⟩, Res.le_buf (by simp) (fun i hi => ?_), trivial⟩
   rw [appGet_ge (by omega)]; rfl
def carL (l : List Roa) (j : Nat) (u : Int) : List Roa := l.set j { l.getD j rd0 with car := u }
theorem carL_at (l : List Roa) (j : Nat) (u : Int) (i : Nat) : ((carL l j u).getD i rd0).a = (l.getD i rd0).a ∧ ((carL l j u).getD i rd0).b = (l.getD i rd0).b ∧ ((carL l j u).getD i rd0).ride = (l.getD i rd0).ride ∧ (((carL l j u).getD i rd0).car = (l.getD i rd0).car ∨ ((carL l j u).getD i rd0).car = u) := by
 unfold carL
 by_cases hj : j < l.length
 · by_cases e : j = i
   · subst e
     have : (l.set j { l.getD j rd0 with car := u }).getD j rd0 = { l.getD j rd0 with car := u } := by
      rw [List.getD_eq_getElem?_getD, List.getElem?_set_self hj]; rfl
     rw [this]; exact ⟨rfl, rfl, rfl, .inr rfl⟩
   · have : (l.set j { l.getD j rd0 with car := u }).getD i rd0 = l.getD i rd0 := by
      rw [List.getD_eq_getElem?_getD, List.getElem?_set_ne e, ← List.getD_eq_getElem?_getD]
     rw [this]; exact ⟨rfl, rfl, rfl, .inl rfl⟩
 · rw [List.set_eq_of_length_le (by omega)]; exact ⟨rfl, rfl, rfl, .inl rfl⟩
theorem rds_car {l : List Roa} (h : rdsE l = 0) {j : Nat} {u : Int} (hu : 0 ≤ u ∧ u ≤ 1000000) : rdsE (carL l j u) = 0 := by
 obtain ⟨h1, h2⟩ := rds_all h
 have hlen : (carL l j u).length = l.length := by unfold carL; rw [List.length_set]
 unfold rdsE
 rw [hlen, if_neg (by omega)]
 refine firstAt_zero fun i hi => ?_
 have h3 := h2 i hi
 obtain ⟨a1, a2, a3, a4⟩ := carL_at l j u i
 obtain ⟨b1, b2, _⟩ := carL_at l j u (i - 1)
 have hb := rd_bd h hi
 have hc : (0 ≤ ((carL l j u).getD i rd0).car ∧ ((carL l j u).getD i rd0).car ≤ 1000000) := by rcases a4 with q | q <;> rw [q]; exact hb.1; exact hu
 unfold rdE at h3 ⊢
 simp only [a1, a2, a3, b1, b2] at h3 ⊢
 rw [if_neg (c := ¬ ((0 ≤ ((carL l j u).getD i rd0).car ∧ ((carL l j u).getD i rd0).car ≤ 1000000) ∧ (0 ≤ (l.getD i rd0).ride ∧ (l.getD i rd0).ride ≤ 1000000))) (fun q => q ⟨hc, hb.2⟩)]
 rw [if_neg (c := ¬ ((0 ≤ (l.getD i rd0).car ∧ (l.getD i rd0).car ≤ 1000000) ∧ (0 ≤ (l.getD i rd0).ride ∧ (l.getD i rd0).ride ≤ 1000000))) (fun q => q ⟨hb.1, hb.2⟩)] at h3
 exact h3
theorem lsV_mem {n : List Ned} {r : List Roa} : ∀ (m a : Nat) (x : Nat → Int), ∀ y ∈ lsV (mvN n r) m a x, ∃ k v, y = mvN n r k v
 | 0, _, _, y, hy => by cases hy
 | m + 1, a, x, y, hy => by
   rw [lsV] at hy
   rcases List.mem_append.1 hy with z | z
   · split at z
     · exact ⟨a, x 0, by simpa using z⟩
     · cases z
   · exact lsV_mem m (a + 1) (vtl x) y z
theorem getD_or {n : List Ned} (i : Nat) : n.getD i nd0 ∈ n ∨ n.getD i nd0 = nd0 := by
 by_cases h : i < n.length
 · exact .inl (getD_mem h)
 · right; rw [List.getD_eq_getElem?_getD, List.getElem?_eq_none (by omega)]; rfl
theorem ned_st {n : List Ned} (hN : allK ndS 5 n) (i : Nat) : (n.getD i nd0).st.length ≤ 8 := by
 rcases getD_or (n := n) i with q | q
 · exact hN.2 _ q
 · rw [q]; decide
theorem mvN_g {n : List Ned} (hN : allK ndS 5 n) {r : List Roa} {k : Nat} {v : Int} : mvG (mvN n r k v) := ⟨ned_st hN _, ned_st hN _⟩
theorem pof_g {n : List Ned} {r : List Roa} {M : PMap Mov} (hN : allK ndS 5 n) (hn : ndsE n = 0) (hr : rdsE r = 0) (h : NowI n r n.length M) {q : Pla Mov} (hq : M (List.replicate (wanS n n.length).length 0) = some q) : allK mvG 100 q.l ∧ ∀ m ∈ q.l, mvS m := by
 have b1 := (h.bnd _ _ hq).1
 have b2 := (nds_all hn).1
 have b3 := wanS_len n n.length
 have b4 : n.length * (wanS n n.length).length ≤ 10 * 10 := Nat.mul_le_mul b2 (by omega)
 have hb := pof_best hn hr h
 rw [hq] at hb
 obtain ⟨x, _, hx⟩ := hb
 exact ⟨⟨by omega, fun y hy => by rw [hx] at hy; obtain ⟨k, v, rfl⟩ := lsV_mem _ _ _ y hy; exact mvN_g hN⟩, b1.2⟩
set_option maxHeartbeats 16000000 in
theorem sMvs (n : Nat) (L : Nat → Int) (hL : Rok n L) (a0 : Int) (h00 : 0 ≤ a0) (ha0 : a0 ≤ 2^35) (N : List Ned) (R : List Roa) (hN : allK ndS 5 N) (hR : allK rdS 25 R) :
 FSpec Tryz.prog 8 [.ptr 1000000 0, .d (neds N), .d (roas R)] [(1000000, strm n L a0)] (fun y r => (∃ l : List Mov, allK mvG 100 l ∧ y = .d (movs l)) ∧ Moved n L a0 200 r) := by
 have hnd : ndOk N := ⟨by have := hN.1; omega, fun x hx => by have h1 : x.st.length ≤ 8 := hN.2 x hx; show x.st.length ≤ 2^40; omega⟩
 have hrd : rdOk R := ⟨by have := hR.1; omega, fun x hx => by have h1 := hR.2 x hx; exact ⟨by have := h1.1; omega, by have := h1.2; omega⟩⟩
 have hRl := hR.1
 have h20 := z20 N hnd
 have h21 := z21 R hrd
 obtain ⟨e1, he1⟩ : ∃ e, ndsE N = e := ⟨_, rfl⟩
 obtain ⟨e2, he2⟩ : ∃ e, rdsE R = e := ⟨_, rfl⟩
 rw [he1] at h20
 rw [he2] at h21
 refine spec_of hT (C := []) Tryz.func8 rfl Tryz.call8 rfl rfl rfl ?_
 conv => whnf
 repeat' (first | (refine CallX.exact (h20) rfl rfl ?_; rotate_right; conv => whnf) | (refine CallX.exact (h21) rfl rfl ?_; rotate_right; conv => whnf) | (refine CallX.of (s84 n L hL _ ?_ ?_ _ ?_) [(1000000, 1000000)] rfl ⟨lr, lr, trivial⟩ ⟨rr, trivial⟩ rfl rfl ?_; rotate_right; rintro x rout ⟨⟨f, rfl⟩, ⟨c, c1, c2, rfl⟩⟩; refine ⟨rfl, ?_⟩; conv => whnf) | (refine CallX.of (p33 R (by omega)) [(7, 7)] rfl ⟨lr, trivial⟩ trivial rfl rfl ?_; rintro x rout ⟨rfl, rfl⟩; refine ⟨rfl, ?_⟩; conv => whnf) | (refine CallX.of (s64 n L hL _ ?_ ?_ 0 5 ?_ ?_ ?_ ?_) [(1000000, 1000000)] rfl ⟨lr, lr, lr, trivial⟩ ⟨rr, trivial⟩ rfl rfl ?_; rotate_right; rintro x rout ⟨⟨k, hk1, hk2, rfl⟩, ⟨c, c1, c2, rfl⟩⟩; refine ⟨rfl, ?_⟩; conv => whnf) | (refine br_intro ?_ ?_ <;> intro hb <;> (try simp only [brs] at hb) <;> conv => whnf) | (refine RegX.rule (id := 11) hT rfl [] oVPiD8_11 (by decide +kernel) ?_; conv => whnf) | (refine RegX.rule (id := 16) hT rfl [] oVPiD8_16 (by decide +kernel) ?_; conv => whnf) | (refine RegX.rule (id := 23) hT rfl [] oVPiD8_23 (by decide +kernel) ?_; conv => whnf) | omega | (refine And.intro ?_ ?_; ((try dsimp only); first | omega | (refine szA rfl ?_; omega) | (refine szB rfl ?_; omega) | (unfold inI64; omega) | exact rfl | (simp only [lns] at *; omega) | decide | (unfold inI64; decide)); conv => whnf) | decide | assumption)
 · have h1 : ndsE N = 0 := by omega
   have h2 : rdsE R = 0 := by omega
   refine LoopX.rule hT (C := []) (ι := Int × List Roa × Nat) (fun (b, l, i) => (a0 ≤ b ∧ b ≤ a0 + 1 + i ∧ i ≤ R.length) ∧ (rdsE l = 0 ∧ l.length = R.length))
    (fun (b, l, i) => mkSt [(1, .d (neds N)), (3, .ptr 3 0), (7, .buf 7), (29, .d (.int .i64 R.length)), (30, .d (.int .i64 i))] [(1000000, strm n L b), (3, .cells 23 [.ptr 1000000 0]), (7, rdB l)]) (fun (_, _, i) => R.length - i) (c, R, 0) ⟨⟨by omega, by show c ≤ a0 + 1 + ((0 : Nat) : Int); omega, by omega⟩, h2, rfl⟩ (by (refine Entails.mk' [(1000000, 1000000), (3, 3), (7, 7)] rfl rfl ?_ ?_ <;> repeat' (first | exact True.intro | exact lr | exact rr | exact SV.le_int (by omega) | exact SV.le_any _ | refine And.intro ?_ ?_)); done) ?_
   rintro ⟨a, l, i⟩ ⟨⟨p1, p2, p3⟩, p4, p5⟩
   have p1 : a0 ≤ a := p1
   have p2 : a ≤ a0 + 1 + i := p2
   have p3 : i ≤ R.length := p3
   have p4 : rdsE l = 0 := p4
   have p5 : l.length = R.length := p5
   rcases Nat.lt_or_ge i R.length with hin | hin
   · conv => whnf
     repeat' (first | (refine CallX.of (s64 n L hL _ ?_ ?_ 0 9 ?_ ?_ ?_ ?_) [(1000000, 1000000)] rfl ⟨lr, lr, lr, trivial⟩ ⟨rr, trivial⟩ rfl rfl ?_; rotate_right; rintro x rout ⟨⟨u, hu1, hu2, rfl⟩, ⟨c, c1, c2, rfl⟩⟩; refine ⟨rfl, ?_⟩; conv => whnf) | (refine br_intro ?_ ?_ <;> intro hb <;> (try simp only [brs] at hb) <;> conv => whnf) | (refine RegX.rule (id := 11) hT rfl [] oVPiD8_11 (by decide +kernel) ?_; conv => whnf) | (refine RegX.rule (id := 16) hT rfl [] oVPiD8_16 (by decide +kernel) ?_; conv => whnf) | (refine RegX.rule (id := 23) hT rfl [] oVPiD8_23 (by decide +kernel) ?_; conv => whnf) | omega | (refine And.intro ?_ ?_; ((try dsimp only); first | omega | (refine szA rfl ?_; omega) | (refine szB rfl ?_; omega) | (unfold inI64; omega) | exact rfl | (simp only [lns] at *; omega) | decide | (unfold inI64; decide)); conv => whnf) | decide | assumption)
     all_goals try (exfalso; omega)
     refine ⟨(_, carL l i u, i + 1), ⟨⟨by omega, ?_, by omega⟩, rds_car p4 ⟨by omega, by omega⟩, by unfold carL; rw [List.length_set]; exact p5⟩, (show R.length - (i + 1) < R.length - i by omega), Entails.mk' [(1000000, 1000000), (3, 3), (7, 7)] rfl rfl ⟨lr, lr, lr, lr, lr, trivial⟩ ⟨rr, rr, Res.le_upd (fun y : Roa => { y with car := u }) (fun _ => rfl), trivial⟩⟩
     show _ ≤ a0 + 1 + ((i + 1 : Nat) : Int)
     omega
   have h0 : 0 ≤ a := by omega
   have ha : a ≤ 2^36 := by omega
   conv => whnf
   repeat' (first | (refine br_intro ?_ ?_ <;> intro hb <;> (try simp only [brs] at hb) <;> conv => whnf) | (refine RegX.rule (id := 11) hT rfl [] oVPiD8_11 (by decide +kernel) ?_; conv => whnf) | (refine RegX.rule (id := 16) hT rfl [] oVPiD8_16 (by decide +kernel) ?_; conv => whnf) | (refine RegX.rule (id := 23) hT rfl [] oVPiD8_23 (by decide +kernel) ?_; conv => whnf) | omega | (refine And.intro ?_ ?_; ((try dsimp only); first | omega | (refine szA rfl ?_; omega) | (refine szB rfl ?_; omega) | (unfold inI64; omega) | exact rfl | (simp only [lns] at *; omega) | decide | (unfold inI64; decide)); conv => whnf) | decide | assumption)
   all_goals try (exfalso; omega)
   refine CallX.freeze _ _ _ _ 7 64 4 _ _ rfl rfl ?_
   refine CallX.of (p35 N l h1 p4) [(7, 9)] rfl ⟨lr, lr, trivial⟩ trivial rfl rfl ?_
   rintro x rout ⟨o, ⟨M, hM, hMo⟩, hcase⟩
   cases o with
   | none =>
     rcases hcase with ⟨hz, rfl, rfl⟩ | ⟨hz, rfl, rfl⟩
     · refine ⟨rfl, ?_⟩
       conv => whnf
       repeat' (first | (refine CallX.of (s64 n L hL _ ?_ ?_ 0 5 ?_ ?_ ?_ ?_) [(1000000, 1000000)] rfl ⟨lr, lr, lr, trivial⟩ ⟨rr, trivial⟩ rfl rfl ?_; rotate_right; rintro x rout ⟨⟨k, hk1, hk2, rfl⟩, ⟨c, c1, c2, rfl⟩⟩; refine ⟨rfl, ?_⟩; conv => whnf) | (refine br_intro ?_ ?_ <;> intro hb <;> (try simp only [brs] at hb) <;> conv => whnf) | (refine RegX.rule (id := 11) hT rfl [] oVPiD8_11 (by decide +kernel) ?_; conv => whnf) | (refine RegX.rule (id := 16) hT rfl [] oVPiD8_16 (by decide +kernel) ?_; conv => whnf) | (refine RegX.rule (id := 23) hT rfl [] oVPiD8_23 (by decide +kernel) ?_; conv => whnf) | omega | (refine And.intro ?_ ?_; ((try dsimp only); first | omega | (refine szA rfl ?_; omega) | (refine szB rfl ?_; omega) | (unfold inI64; omega) | exact rfl | (simp only [lns] at *; omega) | decide | (unfold inI64; decide)); conv => whnf) | decide | assumption)
       refine LoopX.rule hT (C := []) (ι := Int × List Mov × Nat) (fun (b, l, i) => (a ≤ b ∧ b ≤ a + 2 + 3 * i ∧ (i : Int) ≤ k) ∧ allK mvG i l)
        (fun (b, l, i) => mkSt [(3, .ptr 3 0), (11, .buf 11), (70, .d (.int .i64 k)), (71, .d (.int .i64 i))] [(1000000, strm n L b), (3, .cells 23 [.ptr 1000000 0]), (11, mvB l)])
        (fun (_, _, i) => (k - i).toNat) (c, [], 0) ⟨⟨by show a ≤ c; omega, by show c ≤ a + 2 + 3 * ((0 : Nat) : Int); omega, by show ((0 : Nat) : Int) ≤ k; omega⟩, ⟨by simp, fun x hx => by cases hx⟩⟩ ?_ ?_
       · exact (Entails.nil 11 11 70 3 (rowF mvF mv0 []) rfl rfl (by decide)).trans (by (refine Entails.mk' [(1000000, 1000000), (3, 3), (11, 11)] rfl rfl ?_ ?_ <;> repeat' (first | exact True.intro | exact lr | exact rr | exact SV.le_int (by omega) | exact SV.le_any _ | refine And.intro ?_ ?_)); done)
       rintro ⟨b, l, i⟩ ⟨⟨p1, p2, p3⟩, p4⟩
       have p1 : a ≤ b := p1
       have p2 : b ≤ a + 2 + 3 * i := p2
       have p3 : (i : Int) ≤ k := p3
       have p4 : allK mvG i l := p4
       have hl1 := p4.1
       conv => whnf
       repeat' (first | (refine CallX.of (s15 n L hL _ ?_ ?_ [[97], [98], [99], [100]] (by simp) (by simp)) [(1000000, 1000000)] rfl ⟨lr, SV.le_lit rfl rfl, trivial⟩ ⟨rr, trivial⟩ rfl rfl ?_; rotate_right; rintro x rout ⟨⟨u1, hu1, rfl⟩, ⟨c, c1, c2, rfl⟩⟩; have hw1 := mem_len hu1 rfl; refine ⟨rfl, ?_⟩; conv => whnf) | (refine CallX.of (s15 n L hL _ ?_ ?_ [[98], [99], [100], [101]] (by simp) (by simp)) [(1000000, 1000000)] rfl ⟨lr, SV.le_lit rfl rfl, trivial⟩ ⟨rr, trivial⟩ rfl rfl ?_; rotate_right; rintro x rout ⟨⟨u2, hu2, rfl⟩, ⟨c, c1, c2, rfl⟩⟩; have hw2 := mem_len hu2 rfl; refine ⟨rfl, ?_⟩; conv => whnf) | (refine CallX.of (s33 n L hL _ ?_ ?_ [1, 1, 2] ?_ ?_) [(1000000, 1000000)] rfl ⟨lr, SV.le_lit rfl rfl, trivial⟩ ⟨rr, trivial⟩ rfl rfl ?_; rotate_right; rintro x rout ⟨⟨u3, hu3, rfl⟩, ⟨c, c1, c2, rfl⟩⟩; refine ⟨rfl, ?_⟩; conv => whnf) | (refine br_intro ?_ ?_ <;> intro hb <;> (try simp only [brs] at hb) <;> conv => whnf) | (refine RegX.rule (id := 11) hT rfl [] oVPiD8_11 (by decide +kernel) ?_; conv => whnf) | (refine RegX.rule (id := 16) hT rfl [] oVPiD8_16 (by decide +kernel) ?_; conv => whnf) | (refine RegX.rule (id := 23) hT rfl [] oVPiD8_23 (by decide +kernel) ?_; conv => whnf) | omega | (refine And.intro ?_ ?_; ((try dsimp only); first | omega | (refine szA rfl ?_; omega) | (refine szB rfl ?_; omega) | (unfold inI64; omega) | exact rfl | (simp only [lns] at *; omega) | decide | (unfold inI64; decide)); conv => whnf) | decide | assumption)
       · refine ⟨(_, l ++ [⟨u1, u2, u3⟩], i + 1), ⟨⟨by omega, ?_, by omega⟩, allK_snoc p4 (by omega) ⟨hw1, hw2⟩⟩, (show (k - ((i + 1 : Nat) : Int)).toNat < (k - (i : Int)).toNat by omega), Entails.mk' [(1000000, 1000000), (3, 3), (11, 85)] rfl rfl ⟨lr, lr, lr, lr, trivial⟩ ⟨rr, rr, Res.le_snocF rfl, trivial⟩⟩
         show _ ≤ a + 2 + 3 * ((i + 1 : Nat) : Int)
         omega
       have hl5 : l.length ≤ 5 := by omega
       have hi5 : i ≤ 5 := by omega
       refine CallX.of (z99 37 (fun x y => cmpS (mvKey x) (mvKey y)) l (by omega) (fun x y hx hy => z100 x y (p4.2 x hx) (p4.2 y hy))) [(1000001, 11)] rfl ⟨lr, lr, trivial⟩ ⟨rr, trivial⟩ rfl rfl ?_
       rintro x rout ⟨rfl, c1, hc1, rfl⟩
       refine ⟨rfl, ?_⟩
       have hcl1 : c1.length ≤ 5 := by have := hc1.1; omega
       conv => whnf
       refine CallX.of (z102 40 (fun x y => x.a == y.a && x.b == y.b) c1 (by omega) (fun x y _ _ => z103 x y)) [(1000001, 11), (64, 200)] rfl ⟨lr, lr, trivial⟩ ⟨rr, trivial⟩ rfl rfl ?_
       rintro x rout ⟨c2, hc2, nm, hnm, rfl, rfl⟩
       have hcl2 : c2.length ≤ 5 := by have := hc2.1; omega
       rcases hnm with rfl | rfl
       · refine ⟨rfl, ?_⟩
         conv => whnf
         refine CallX.of (z104 n L hL b (by omega) (by omega) c2 (by omega)) [(1000000, 1000000), (1000001, 11), (1000002, 3), (41, 300)] rfl ⟨lr, lr, trivial⟩ ⟨rr, rr, rr, trivial⟩ rfl rfl ?_
         rintro x rout ⟨e, he1, nm, hnm, rfl, c5, ⟨hv1, hv2⟩, rfl⟩
         rcases hnm with rfl | rfl
         · refine ⟨rfl, ?_⟩
           conv => whnf
           have hsh : allK mvG 100 e := ⟨by have := hc1.1; have := hc2.1; have := he1.1; omega, fun p hp => p4.2 p (hc1.2 p (hc2.2 p (he1.2 p hp)))⟩
           have he5 := hsh.1
           repeat' (first | (refine CallX.of (s84 n L hL _ ?_ ?_ _ ?_) [(1000000, 1000000)] rfl ⟨lr, lr, trivial⟩ ⟨rr, trivial⟩ rfl rfl ?_; rotate_right; rintro x rout ⟨⟨f, rfl⟩, ⟨c, c1, c2, rfl⟩⟩; refine ⟨rfl, ?_⟩; conv => whnf) | (refine CallX.of (s86 n L hL _ ?_ ?_ _ ?_) [(1000000, 1000000)] rfl ⟨lr, lr, trivial⟩ ⟨rr, trivial⟩ rfl rfl ?_; rotate_right; rintro x rout ⟨⟨j, hj1, hj2, hj3, rfl⟩, ⟨c, c1, c2, rfl⟩⟩; refine ⟨rfl, ?_⟩; conv => whnf) | (refine CallX.of (s15 n L hL _ ?_ ?_ [(e.getD j.toNat mv0).a, [], [122]] (by simp) (by simp)) [(1000000, 1000000)] rfl ⟨lr, SV.le_lit rfl rfl, trivial⟩ ⟨rr, trivial⟩ rfl rfl ?_; rotate_right; rintro x rout ⟨⟨u1, hu1, rfl⟩, ⟨c, c1, c2, rfl⟩⟩; refine ⟨rfl, ?_⟩; conv => whnf) | (refine CallX.of (s104 n L hL _ ?_ ?_ 1 20 ?_ ?_ ?_) [(1000000, 1000000)] rfl ⟨lr, lr, lr, trivial⟩ ⟨rr, trivial⟩ rfl rfl ?_; rotate_right; rintro x rout ⟨⟨u3, hk1, hk2, rfl⟩, ⟨c, c1, c2, rfl⟩⟩; refine ⟨rfl, ?_⟩; conv => whnf) | (refine br_intro ?_ ?_ <;> intro hb <;> (try simp only [brs] at hb) <;> conv => whnf) | (refine RegX.rule (id := 11) hT rfl [] oVPiD8_11 (by decide +kernel) ?_; conv => whnf) | (refine RegX.rule (id := 16) hT rfl [] oVPiD8_16 (by decide +kernel) ?_; conv => whnf) | (refine RegX.rule (id := 23) hT rfl [] oVPiD8_23 (by decide +kernel) ?_; conv => whnf) | omega | (refine And.intro ?_ ?_; ((try dsimp only); first | omega | (refine szA rfl ?_; omega) | (refine szB rfl ?_; omega) | (unfold inI64; omega) | exact rfl | (simp only [lns] at *; omega) | decide | (unfold inI64; decide)); conv => whnf) | decide | assumption)
           all_goals first
            | (first
                | refine .freeze _ 11 70 3 _ _ rfl (.weak _ ?_)
                | refine .freeze _ 200 70 3 _ _ rfl (.weak _ ?_)
                | refine .freeze _ 300 70 3 _ _ rfl (.weak _ ?_)
               (conv => whnf)
               have hx := hsh.2 (e.getD j.toNat mv0) (getD_mem (by omega))
               have hq1 := three_len hu1 hx.1 (by decide) (by decide)
               exact ⟨_, [(1000000, strm n L _)], SV.le_upd2 (f := mvF) (d := mv0) (l := e) (fun y : Mov => { y with a := u1 }) (fun y => { y with many := u3 }) (fun _ => rfl) (fun _ => rfl), ⟨⟨_, allK_upd (g := fun y : Mov => { y with many := u3 }) (allK_upd (g := fun y : Mov => { y with a := u1 }) hsh (fun y hy => ⟨hq1, hy.2⟩)) (fun y hy => hy), rfl⟩, _, by omega, by omega, rfl⟩, rr, trivial⟩)
            | (first
                | refine .freeze _ 11 70 3 _ _ rfl (.weak _ ?_)
                | refine .freeze _ 200 70 3 _ _ rfl (.weak _ ?_)
                | refine .freeze _ 300 70 3 _ _ rfl (.weak _ ?_)
               (conv => whnf)
               exact ⟨_, [(1000000, strm n L _)], lr, ⟨⟨e, hsh, rfl⟩, _, by omega, by omega, rfl⟩, rr, trivial⟩)
         · refine ⟨rfl, ?_⟩
           conv => whnf
           have hsh : allK mvG 100 e := ⟨by have := hc1.1; have := hc2.1; have := he1.1; omega, fun p hp => p4.2 p (hc1.2 p (hc2.2 p (he1.2 p hp)))⟩
           have he5 := hsh.1
           repeat' (first | (refine CallX.of (s84 n L hL _ ?_ ?_ _ ?_) [(1000000, 1000000)] rfl ⟨lr, lr, trivial⟩ ⟨rr, trivial⟩ rfl rfl ?_; rotate_right; rintro x rout ⟨⟨f, rfl⟩, ⟨c, c1, c2, rfl⟩⟩; refine ⟨rfl, ?_⟩; conv => whnf) | (refine CallX.of (s86 n L hL _ ?_ ?_ _ ?_) [(1000000, 1000000)] rfl ⟨lr, lr, trivial⟩ ⟨rr, trivial⟩ rfl rfl ?_; rotate_right; rintro x rout ⟨⟨j, hj1, hj2, hj3, rfl⟩, ⟨c, c1, c2, rfl⟩⟩; refine ⟨rfl, ?_⟩; conv => whnf) | (refine CallX.of (s15 n L hL _ ?_ ?_ [(e.getD j.toNat mv0).a, [], [122]] (by simp) (by simp)) [(1000000, 1000000)] rfl ⟨lr, SV.le_lit rfl rfl, trivial⟩ ⟨rr, trivial⟩ rfl rfl ?_; rotate_right; rintro x rout ⟨⟨u1, hu1, rfl⟩, ⟨c, c1, c2, rfl⟩⟩; refine ⟨rfl, ?_⟩; conv => whnf) | (refine CallX.of (s104 n L hL _ ?_ ?_ 1 20 ?_ ?_ ?_) [(1000000, 1000000)] rfl ⟨lr, lr, lr, trivial⟩ ⟨rr, trivial⟩ rfl rfl ?_; rotate_right; rintro x rout ⟨⟨u3, hk1, hk2, rfl⟩, ⟨c, c1, c2, rfl⟩⟩; refine ⟨rfl, ?_⟩; conv => whnf) | (refine br_intro ?_ ?_ <;> intro hb <;> (try simp only [brs] at hb) <;> conv => whnf) | (refine RegX.rule (id := 11) hT rfl [] oVPiD8_11 (by decide +kernel) ?_; conv => whnf) | (refine RegX.rule (id := 16) hT rfl [] oVPiD8_16 (by decide +kernel) ?_; conv => whnf) | (refine RegX.rule (id := 23) hT rfl [] oVPiD8_23 (by decide +kernel) ?_; conv => whnf) | omega | (refine And.intro ?_ ?_; ((try dsimp only); first | omega | (refine szA rfl ?_; omega) | (refine szB rfl ?_; omega) | (unfold inI64; omega) | exact rfl | (simp only [lns] at *; omega) | decide | (unfold inI64; decide)); conv => whnf) | decide | assumption)
           all_goals first
            | (first
                | refine .freeze _ 11 70 3 _ _ rfl (.weak _ ?_)
                | refine .freeze _ 200 70 3 _ _ rfl (.weak _ ?_)
                | refine .freeze _ 300 70 3 _ _ rfl (.weak _ ?_)
               (conv => whnf)
               have hx := hsh.2 (e.getD j.toNat mv0) (getD_mem (by omega))
               have hq1 := three_len hu1 hx.1 (by decide) (by decide)
               exact ⟨_, [(1000000, strm n L _)], SV.le_upd2 (f := mvF) (d := mv0) (l := e) (fun y : Mov => { y with a := u1 }) (fun y => { y with many := u3 }) (fun _ => rfl) (fun _ => rfl), ⟨⟨_, allK_upd (g := fun y : Mov => { y with many := u3 }) (allK_upd (g := fun y : Mov => { y with a := u1 }) hsh (fun y hy => ⟨hq1, hy.2⟩)) (fun y hy => hy), rfl⟩, _, by omega, by omega, rfl⟩, rr, trivial⟩)
            | (first
                | refine .freeze _ 11 70 3 _ _ rfl (.weak _ ?_)
                | refine .freeze _ 200 70 3 _ _ rfl (.weak _ ?_)
                | refine .freeze _ 300 70 3 _ _ rfl (.weak _ ?_)
               (conv => whnf)
               exact ⟨_, [(1000000, strm n L _)], lr, ⟨⟨e, hsh, rfl⟩, _, by omega, by omega, rfl⟩, rr, trivial⟩)
       · refine ⟨rfl, ?_⟩
         conv => whnf
         refine CallX.of (z104 n L hL b (by omega) (by omega) c2 (by omega)) [(1000000, 1000000), (1000001, 200), (1000002, 3), (41, 300)] rfl ⟨lr, lr, trivial⟩ ⟨rr, rr, rr, trivial⟩ rfl rfl ?_
         rintro x rout ⟨e, he1, nm, hnm, rfl, c5, ⟨hv1, hv2⟩, rfl⟩
         rcases hnm with rfl | rfl
         · refine ⟨rfl, ?_⟩
           conv => whnf
           have hsh : allK mvG 100 e := ⟨by have := hc1.1; have := hc2.1; have := he1.1; omega, fun p hp => p4.2 p (hc1.2 p (hc2.2 p (he1.2 p hp)))⟩
           have he5 := hsh.1
           repeat' (first | (refine CallX.of (s84 n L hL _ ?_ ?_ _ ?_) [(1000000, 1000000)] rfl ⟨lr, lr, trivial⟩ ⟨rr, trivial⟩ rfl rfl ?_; rotate_right; rintro x rout ⟨⟨f, rfl⟩, ⟨c, c1, c2, rfl⟩⟩; refine ⟨rfl, ?_⟩; conv => whnf) | (refine CallX.of (s86 n L hL _ ?_ ?_ _ ?_) [(1000000, 1000000)] rfl ⟨lr, lr, trivial⟩ ⟨rr, trivial⟩ rfl rfl ?_; rotate_right; rintro x rout ⟨⟨j, hj1, hj2, hj3, rfl⟩, ⟨c, c1, c2, rfl⟩⟩; refine ⟨rfl, ?_⟩; conv => whnf) | (refine CallX.of (s15 n L hL _ ?_ ?_ [(e.getD j.toNat mv0).a, [], [122]] (by simp) (by simp)) [(1000000, 1000000)] rfl ⟨lr, SV.le_lit rfl rfl, trivial⟩ ⟨rr, trivial⟩ rfl rfl ?_; rotate_right; rintro x rout ⟨⟨u1, hu1, rfl⟩, ⟨c, c1, c2, rfl⟩⟩; refine ⟨rfl, ?_⟩; conv => whnf) | (refine CallX.of (s104 n L hL _ ?_ ?_ 1 20 ?_ ?_ ?_) [(1000000, 1000000)] rfl ⟨lr, lr, lr, trivial⟩ ⟨rr, trivial⟩ rfl rfl ?_; rotate_right; rintro x rout ⟨⟨u3, hk1, hk2, rfl⟩, ⟨c, c1, c2, rfl⟩⟩; refine ⟨rfl, ?_⟩; conv => whnf) | (refine br_intro ?_ ?_ <;> intro hb <;> (try simp only [brs] at hb) <;> conv => whnf) | (refine RegX.rule (id := 11) hT rfl [] oVPiD8_11 (by decide +kernel) ?_; conv => whnf) | (refine RegX.rule (id := 16) hT rfl [] oVPiD8_16 (by decide +kernel) ?_; conv => whnf) | (refine RegX.rule (id := 23) hT rfl [] oVPiD8_23 (by decide +kernel) ?_; conv => whnf) | omega | (refine And.intro ?_ ?_; ((try dsimp only); first | omega | (refine szA rfl ?_; omega) | (refine szB rfl ?_; omega) | (unfold inI64; omega) | exact rfl | (simp only [lns] at *; omega) | decide | (unfold inI64; decide)); conv => whnf) | decide | assumption)
           all_goals first
            | (first
                | refine .freeze _ 11 70 3 _ _ rfl (.weak _ ?_)
                | refine .freeze _ 200 70 3 _ _ rfl (.weak _ ?_)
                | refine .freeze _ 300 70 3 _ _ rfl (.weak _ ?_)
               (conv => whnf)
               have hx := hsh.2 (e.getD j.toNat mv0) (getD_mem (by omega))
               have hq1 := three_len hu1 hx.1 (by decide) (by decide)
               exact ⟨_, [(1000000, strm n L _)], SV.le_upd2 (f := mvF) (d := mv0) (l := e) (fun y : Mov => { y with a := u1 }) (fun y => { y with many := u3 }) (fun _ => rfl) (fun _ => rfl), ⟨⟨_, allK_upd (g := fun y : Mov => { y with many := u3 }) (allK_upd (g := fun y : Mov => { y with a := u1 }) hsh (fun y hy => ⟨hq1, hy.2⟩)) (fun y hy => hy), rfl⟩, _, by omega, by omega, rfl⟩, rr, trivial⟩)
            | (first
                | refine .freeze _ 11 70 3 _ _ rfl (.weak _ ?_)
                | refine .freeze _ 200 70 3 _ _ rfl (.weak _ ?_)
                | refine .freeze _ 300 70 3 _ _ rfl (.weak _ ?_)
               (conv => whnf)
               exact ⟨_, [(1000000, strm n L _)], lr, ⟨⟨e, hsh, rfl⟩, _, by omega, by omega, rfl⟩, rr, trivial⟩)
         · refine ⟨rfl, ?_⟩
           conv => whnf
           have hsh : allK mvG 100 e := ⟨by have := hc1.1; have := hc2.1; have := he1.1; omega, fun p hp => p4.2 p (hc1.2 p (hc2.2 p (he1.2 p hp)))⟩
           have he5 := hsh.1
           repeat' (first | (refine CallX.of (s84 n L hL _ ?_ ?_ _ ?_) [(1000000, 1000000)] rfl ⟨lr, lr, trivial⟩ ⟨rr, trivial⟩ rfl rfl ?_; rotate_right; rintro x rout ⟨⟨f, rfl⟩, ⟨c, c1, c2, rfl⟩⟩; refine ⟨rfl, ?_⟩; conv => whnf) | (refine CallX.of (s86 n L hL _ ?_ ?_ _ ?_) [(1000000, 1000000)] rfl ⟨lr, lr, trivial⟩ ⟨rr, trivial⟩ rfl rfl ?_; rotate_right; rintro x rout ⟨⟨j, hj1, hj2, hj3, rfl⟩, ⟨c, c1, c2, rfl⟩⟩; refine ⟨rfl, ?_⟩; conv => whnf) | (refine CallX.of (s15 n L hL _ ?_ ?_ [(e.getD j.toNat mv0).a, [], [122]] (by simp) (by simp)) [(1000000, 1000000)] rfl ⟨lr, SV.le_lit rfl rfl, trivial⟩ ⟨rr, trivial⟩ rfl rfl ?_; rotate_right; rintro x rout ⟨⟨u1, hu1, rfl⟩, ⟨c, c1, c2, rfl⟩⟩; refine ⟨rfl, ?_⟩; conv => whnf) | (refine CallX.of (s104 n L hL _ ?_ ?_ 1 20 ?_ ?_ ?_) [(1000000, 1000000)] rfl ⟨lr, lr, lr, trivial⟩ ⟨rr, trivial⟩ rfl rfl ?_; rotate_right; rintro x rout ⟨⟨u3, hk1, hk2, rfl⟩, ⟨c, c1, c2, rfl⟩⟩; refine ⟨rfl, ?_⟩; conv => whnf) | (refine br_intro ?_ ?_ <;> intro hb <;> (try simp only [brs] at hb) <;> conv => whnf) | (refine RegX.rule (id := 11) hT rfl [] oVPiD8_11 (by decide +kernel) ?_; conv => whnf) | (refine RegX.rule (id := 16) hT rfl [] oVPiD8_16 (by decide +kernel) ?_; conv => whnf) | (refine RegX.rule (id := 23) hT rfl [] oVPiD8_23 (by decide +kernel) ?_; conv => whnf) | omega | (refine And.intro ?_ ?_; ((try dsimp only); first | omega | (refine szA rfl ?_; omega) | (refine szB rfl ?_; omega) | (unfold inI64; omega) | exact rfl | (simp only [lns] at *; omega) | decide | (unfold inI64; decide)); conv => whnf) | decide | assumption)
           all_goals first
            | (first
                | refine .freeze _ 11 70 3 _ _ rfl (.weak _ ?_)
                | refine .freeze _ 200 70 3 _ _ rfl (.weak _ ?_)
                | refine .freeze _ 300 70 3 _ _ rfl (.weak _ ?_)
               (conv => whnf)
               have hx := hsh.2 (e.getD j.toNat mv0) (getD_mem (by omega))
               have hq1 := three_len hu1 hx.1 (by decide) (by decide)
               exact ⟨_, [(1000000, strm n L _)], SV.le_upd2 (f := mvF) (d := mv0) (l := e) (fun y : Mov => { y with a := u1 }) (fun y => { y with many := u3 }) (fun _ => rfl) (fun _ => rfl), ⟨⟨_, allK_upd (g := fun y : Mov => { y with many := u3 }) (allK_upd (g := fun y : Mov => { y with a := u1 }) hsh (fun y hy => ⟨hq1, hy.2⟩)) (fun y hy => hy), rfl⟩, _, by omega, by omega, rfl⟩, rr, trivial⟩)
            | (first
                | refine .freeze _ 11 70 3 _ _ rfl (.weak _ ?_)
                | refine .freeze _ 200 70 3 _ _ rfl (.weak _ ?_)
                | refine .freeze _ 300 70 3 _ _ rfl (.weak _ ?_)
               (conv => whnf)
               exact ⟨_, [(1000000, strm n L _)], lr, ⟨⟨e, hsh, rfl⟩, _, by omega, by omega, rfl⟩, rr, trivial⟩)
     · exact absurd hz (by decide)
   | some q =>
     obtain ⟨hq1, hq2⟩ := pof_g hN h1 p4 hM hMo.symm
     have hql := hq1.1
     simp only [plL] at hcase
     rcases hcase with ⟨hz, rfl, rfl⟩ | ⟨hz, rfl, rfl⟩
     · refine ⟨rfl, ?_⟩
       conv => whnf
       repeat' (first | (refine br_intro ?_ ?_ <;> intro hb <;> (try simp only [brs] at hb) <;> conv => whnf) | (refine RegX.rule (id := 11) hT rfl [] oVPiD8_11 (by decide +kernel) ?_; conv => whnf) | (refine RegX.rule (id := 16) hT rfl [] oVPiD8_16 (by decide +kernel) ?_; conv => whnf) | (refine RegX.rule (id := 23) hT rfl [] oVPiD8_23 (by decide +kernel) ?_; conv => whnf) | omega | (refine And.intro ?_ ?_; ((try dsimp only); first | omega | (refine szA rfl ?_; omega) | (refine szB rfl ?_; omega) | (unfold inI64; omega) | exact rfl | (simp only [lns] at *; omega) | decide | (unfold inI64; decide)); conv => whnf) | decide | assumption)
       all_goals try (exfalso; omega)
       refine .weak _ ?_
       conv => whnf
       exact ⟨_, [(1000000, strm n L _)], SV.le_ro (by exact hz.symm) (fun _ _ => rfl), ⟨⟨q.l, hq1, rfl⟩, _, by omega, by omega, rfl⟩, rr, trivial⟩
     · have hz : 0 < q.l.length := hz
       refine ⟨rfl, ?_⟩
       conv => whnf
       repeat' (first | (refine CallX.of (s84 n L hL _ ?_ ?_ _ ?_) [(1000000, 1000000)] rfl ⟨lr, lr, trivial⟩ ⟨rr, trivial⟩ rfl rfl ?_; rotate_right; rintro x rout ⟨⟨f, rfl⟩, ⟨c, c1, c2, rfl⟩⟩; refine ⟨rfl, ?_⟩; conv => whnf) | (refine CallX.of (s86 n L hL _ ?_ ?_ _ ?_) [(1000000, 1000000)] rfl ⟨lr, lr, trivial⟩ ⟨rr, trivial⟩ rfl rfl ?_; rotate_right; rintro x rout ⟨⟨j, hj1, hj2, hj3, rfl⟩, ⟨c, c1, c2, rfl⟩⟩; have hj5 := hq2 (q.l.getD j.toNat mv0) (getD_mem (by omega)); have hj6 := hj5.1; have hj7 := hj5.2; refine ⟨rfl, ?_⟩; conv => whnf) | (refine CallX.of (s33 n L hL _ ?_ ?_ [1, -1] ?_ ?_) [(1000000, 1000000)] rfl ⟨lr, SV.le_lit rfl rfl, trivial⟩ ⟨rr, trivial⟩ rfl rfl ?_; rotate_right; rintro x rout ⟨⟨u, hu, rfl⟩, ⟨c, c1, c2, rfl⟩⟩; have hu2 : u = 1 ∨ u = -1 := (by simpa using hu); refine ⟨rfl, ?_⟩; conv => whnf) | (refine br_intro ?_ ?_ <;> intro hb <;> (try simp only [brs] at hb) <;> conv => whnf) | (refine RegX.rule (id := 11) hT rfl [] oVPiD8_11 (by decide +kernel) ?_; conv => whnf) | (refine RegX.rule (id := 16) hT rfl [] oVPiD8_16 (by decide +kernel) ?_; conv => whnf) | (refine RegX.rule (id := 23) hT rfl [] oVPiD8_23 (by decide +kernel) ?_; conv => whnf) | omega | (refine And.intro ?_ ?_; ((try dsimp only); first | omega | (refine szA rfl ?_; omega) | (refine szB rfl ?_; omega) | (unfold inI64; omega) | exact rfl | (simp only [lns] at *; omega) | decide | (unfold inI64; decide)); conv => whnf) | decide | assumption)
       all_goals try (exfalso; omega)
       · refine .freeze _ 9 70 3 _ _ rfl (.weak _ ?_)
         (conv => whnf)
         exact ⟨_, [(1000000, strm n L _)], SV.le_upd (f := mvF) (d := mv0) (l := q.l) (fun y : Mov => { y with many := (q.l.getD j.toNat mv0).many + u }) (fun _ => rfl), ⟨⟨_, allK_upd (g := fun y : Mov => { y with many := (q.l.getD j.toNat mv0).many + u }) hq1 (fun y hy => hy), rfl⟩, _, by omega, by omega, rfl⟩, rr, trivial⟩
       · refine .freeze _ 9 70 3 _ _ rfl (.weak _ ?_)
         (conv => whnf)
         exact ⟨_, [(1000000, strm n L _)], lr, ⟨⟨q.l, hq1, rfl⟩, _, by omega, by omega, rfl⟩, rr, trivial⟩
 all_goals
  obtain ⟨a, hae⟩ : ∃ a, a = a0 := ⟨_, rfl⟩
  have h0 : 0 ≤ a := by omega
  have ha : a ≤ 2^36 := by omega
  refine LoopX.rule hT (C := []) (ι := Int × List Mov × Nat) (fun (b, l, i) => (a ≤ b ∧ b ≤ a + 2 + 3 * i ∧ (i : Int) ≤ k) ∧ allK mvG i l)
   (fun (b, l, i) => mkSt [(3, .ptr 3 0), (11, .buf 11), (70, .d (.int .i64 k)), (71, .d (.int .i64 i))] [(1000000, strm n L b), (3, .cells 23 [.ptr 1000000 0]), (11, mvB l)])
   (fun (_, _, i) => (k - i).toNat) (c, [], 0) ⟨⟨by show a ≤ c; omega, by show c ≤ a + 2 + 3 * ((0 : Nat) : Int); omega, by show ((0 : Nat) : Int) ≤ k; omega⟩, ⟨by simp, fun x hx => by cases hx⟩⟩ ?_ ?_
  · exact (Entails.nil 11 11 70 3 (rowF mvF mv0 []) rfl rfl (by decide)).trans (by (refine Entails.mk' [(1000000, 1000000), (3, 3), (11, 11)] rfl rfl ?_ ?_ <;> repeat' (first | exact True.intro | exact lr | exact rr | exact SV.le_int (by omega) | exact SV.le_any _ | refine And.intro ?_ ?_)); done)
  rintro ⟨b, l, i⟩ ⟨⟨p1, p2, p3⟩, p4⟩
  have p1 : a ≤ b := p1
  have p2 : b ≤ a + 2 + 3 * i := p2
  have p3 : (i : Int) ≤ k := p3
  have p4 : allK mvG i l := p4
  have hl1 := p4.1
  conv => whnf
  repeat' (first | (refine CallX.of (s15 n L hL _ ?_ ?_ [[97], [98], [99], [100]] (by simp) (by simp)) [(1000000, 1000000)] rfl ⟨lr, SV.le_lit rfl rfl, trivial⟩ ⟨rr, trivial⟩ rfl rfl ?_; rotate_right; rintro x rout ⟨⟨u1, hu1, rfl⟩, ⟨c, c1, c2, rfl⟩⟩; have hw1 := mem_len hu1 rfl; refine ⟨rfl, ?_⟩; conv => whnf) | (refine CallX.of (s15 n L hL _ ?_ ?_ [[98], [99], [100], [101]] (by simp) (by simp)) [(1000000, 1000000)] rfl ⟨lr, SV.le_lit rfl rfl, trivial⟩ ⟨rr, trivial⟩ rfl rfl ?_; rotate_right; rintro x rout ⟨⟨u2, hu2, rfl⟩, ⟨c, c1, c2, rfl⟩⟩; have hw2 := mem_len hu2 rfl; refine ⟨rfl, ?_⟩; conv => whnf) | (refine CallX.of (s33 n L hL _ ?_ ?_ [1, 1, 2] ?_ ?_) [(1000000, 1000000)] rfl ⟨lr, SV.le_lit rfl rfl, trivial⟩ ⟨rr, trivial⟩ rfl rfl ?_; rotate_right; rintro x rout ⟨⟨u3, hu3, rfl⟩, ⟨c, c1, c2, rfl⟩⟩; refine ⟨rfl, ?_⟩; conv => whnf) | (refine br_intro ?_ ?_ <;> intro hb <;> (try simp only [brs] at hb) <;> conv => whnf) | (refine RegX.rule (id := 11) hT rfl [] oVPiD8_11 (by decide +kernel) ?_; conv => whnf) | (refine RegX.rule (id := 16) hT rfl [] oVPiD8_16 (by decide +kernel) ?_; conv => whnf) | (refine RegX.rule (id := 23) hT rfl [] oVPiD8_23 (by decide +kernel) ?_; conv => whnf) | omega | (refine And.intro ?_ ?_; ((try dsimp only); first | omega | (refine szA rfl ?_; omega) | (refine szB rfl ?_; omega) | (unfold inI64; omega) | exact rfl | (simp only [lns] at *; omega) | decide | (unfold inI64; decide)); conv => whnf) | decide | assumption)
  · refine ⟨(_, l ++ [⟨u1, u2, u3⟩], i + 1), ⟨⟨by omega, ?_, by omega⟩, allK_snoc p4 (by omega) ⟨hw1, hw2⟩⟩, (show (k - ((i + 1 : Nat) : Int)).toNat < (k - (i : Int)).toNat by omega), Entails.mk' [(1000000, 1000000), (3, 3), (11, 85)] rfl rfl ⟨lr, lr, lr, lr, trivial⟩ ⟨rr, rr, Res.le_snocF rfl, trivial⟩⟩
    show _ ≤ a + 2 + 3 * ((i + 1 : Nat) : Int)
    omega
  have hl5 : l.length ≤ 5 := by omega
  have hi5 : i ≤ 5 := by omega
  refine CallX.of (z99 37 (fun x y => cmpS (mvKey x) (mvKey y)) l (by omega) (fun x y hx hy => z100 x y (p4.2 x hx) (p4.2 y hy))) [(1000001, 11)] rfl ⟨lr, lr, trivial⟩ ⟨rr, trivial⟩ rfl rfl ?_
  rintro x rout ⟨rfl, c1, hc1, rfl⟩
  refine ⟨rfl, ?_⟩
  have hcl1 : c1.length ≤ 5 := by have := hc1.1; omega
  conv => whnf
  refine CallX.of (z102 40 (fun x y => x.a == y.a && x.b == y.b) c1 (by omega) (fun x y _ _ => z103 x y)) [(1000001, 11), (64, 200)] rfl ⟨lr, lr, trivial⟩ ⟨rr, trivial⟩ rfl rfl ?_
  rintro x rout ⟨c2, hc2, nm, hnm, rfl, rfl⟩
  have hcl2 : c2.length ≤ 5 := by have := hc2.1; omega
  rcases hnm with rfl | rfl
  · refine ⟨rfl, ?_⟩
    conv => whnf
    refine CallX.of (z104 n L hL b (by omega) (by omega) c2 (by omega)) [(1000000, 1000000), (1000001, 11), (1000002, 3), (41, 300)] rfl ⟨lr, lr, trivial⟩ ⟨rr, rr, rr, trivial⟩ rfl rfl ?_
    rintro x rout ⟨e, he1, nm, hnm, rfl, c5, ⟨hv1, hv2⟩, rfl⟩
    rcases hnm with rfl | rfl
    · refine ⟨rfl, ?_⟩
      conv => whnf
      have hsh : allK mvG 100 e := ⟨by have := hc1.1; have := hc2.1; have := he1.1; omega, fun p hp => p4.2 p (hc1.2 p (hc2.2 p (he1.2 p hp)))⟩
      have he5 := hsh.1
      repeat' (first | (refine CallX.of (s84 n L hL _ ?_ ?_ _ ?_) [(1000000, 1000000)] rfl ⟨lr, lr, trivial⟩ ⟨rr, trivial⟩ rfl rfl ?_; rotate_right; rintro x rout ⟨⟨f, rfl⟩, ⟨c, c1, c2, rfl⟩⟩; refine ⟨rfl, ?_⟩; conv => whnf) | (refine CallX.of (s86 n L hL _ ?_ ?_ _ ?_) [(1000000, 1000000)] rfl ⟨lr, lr, trivial⟩ ⟨rr, trivial⟩ rfl rfl ?_; rotate_right; rintro x rout ⟨⟨j, hj1, hj2, hj3, rfl⟩, ⟨c, c1, c2, rfl⟩⟩; refine ⟨rfl, ?_⟩; conv => whnf) | (refine CallX.of (s15 n L hL _ ?_ ?_ [(e.getD j.toNat mv0).a, [], [122]] (by simp) (by simp)) [(1000000, 1000000)] rfl ⟨lr, SV.le_lit rfl rfl, trivial⟩ ⟨rr, trivial⟩ rfl rfl ?_; rotate_right; rintro x rout ⟨⟨u1, hu1, rfl⟩, ⟨c, c1, c2, rfl⟩⟩; refine ⟨rfl, ?_⟩; conv => whnf) | (refine CallX.of (s104 n L hL _ ?_ ?_ 1 20 ?_ ?_ ?_) [(1000000, 1000000)] rfl ⟨lr, lr, lr, trivial⟩ ⟨rr, trivial⟩ rfl rfl ?_; rotate_right; rintro x rout ⟨⟨u3, hk1, hk2, rfl⟩, ⟨c, c1, c2, rfl⟩⟩; refine ⟨rfl, ?_⟩; conv => whnf) | (refine br_intro ?_ ?_ <;> intro hb <;> (try simp only [brs] at hb) <;> conv => whnf) | (refine RegX.rule (id := 11) hT rfl [] oVPiD8_11 (by decide +kernel) ?_; conv => whnf) | (refine RegX.rule (id := 16) hT rfl [] oVPiD8_16 (by decide +kernel) ?_; conv => whnf) | (refine RegX.rule (id := 23) hT rfl [] oVPiD8_23 (by decide +kernel) ?_; conv => whnf) | omega | (refine And.intro ?_ ?_; ((try dsimp only); first | omega | (refine szA rfl ?_; omega) | (refine szB rfl ?_; omega) | (unfold inI64; omega) | exact rfl | (simp only [lns] at *; omega) | decide | (unfold inI64; decide)); conv => whnf) | decide | assumption)
      all_goals first
       | (first
           | refine .freeze _ 11 70 3 _ _ rfl (.weak _ ?_)
           | refine .freeze _ 200 70 3 _ _ rfl (.weak _ ?_)
           | refine .freeze _ 300 70 3 _ _ rfl (.weak _ ?_)
          (conv => whnf)
          have hx := hsh.2 (e.getD j.toNat mv0) (getD_mem (by omega))
          have hq1 := three_len hu1 hx.1 (by decide) (by decide)
          exact ⟨_, [(1000000, strm n L _)], SV.le_upd2 (f := mvF) (d := mv0) (l := e) (fun y : Mov => { y with a := u1 }) (fun y => { y with many := u3 }) (fun _ => rfl) (fun _ => rfl), ⟨⟨_, allK_upd (g := fun y : Mov => { y with many := u3 }) (allK_upd (g := fun y : Mov => { y with a := u1 }) hsh (fun y hy => ⟨hq1, hy.2⟩)) (fun y hy => hy), rfl⟩, _, by omega, by omega, rfl⟩, rr, trivial⟩)
       | (first
           | refine .freeze _ 11 70 3 _ _ rfl (.weak _ ?_)
           | refine .freeze _ 200 70 3 _ _ rfl (.weak _ ?_)
           | refine .freeze _ 300 70 3 _ _ rfl (.weak _ ?_)
          (conv => whnf)
          exact ⟨_, [(1000000, strm n L _)], lr, ⟨⟨e, hsh, rfl⟩, _, by omega, by omega, rfl⟩, rr, trivial⟩)
    · refine ⟨rfl, ?_⟩
      conv => whnf
      have hsh : allK mvG 100 e := ⟨by have := hc1.1; have := hc2.1; have := he1.1; omega, fun p hp => p4.2 p (hc1.2 p (hc2.2 p (he1.2 p hp)))⟩
      have he5 := hsh.1
      repeat' (first | (refine CallX.of (s84 n L hL _ ?_ ?_ _ ?_) [(1000000, 1000000)] rfl ⟨lr, lr, trivial⟩ ⟨rr, trivial⟩ rfl rfl ?_; rotate_right; rintro x rout ⟨⟨f, rfl⟩, ⟨c, c1, c2, rfl⟩⟩; refine ⟨rfl, ?_⟩; conv => whnf) | (refine CallX.of (s86 n L hL _ ?_ ?_ _ ?_) [(1000000, 1000000)] rfl ⟨lr, lr, trivial⟩ ⟨rr, trivial⟩ rfl rfl ?_; rotate_right; rintro x rout ⟨⟨j, hj1, hj2, hj3, rfl⟩, ⟨c, c1, c2, rfl⟩⟩; refine ⟨rfl, ?_⟩; conv => whnf) | (refine CallX.of (s15 n L hL _ ?_ ?_ [(e.getD j.toNat mv0).a, [], [122]] (by simp) (by simp)) [(1000000, 1000000)] rfl ⟨lr, SV.le_lit rfl rfl, trivial⟩ ⟨rr, trivial⟩ rfl rfl ?_; rotate_right; rintro x rout ⟨⟨u1, hu1, rfl⟩, ⟨c, c1, c2, rfl⟩⟩; refine ⟨rfl, ?_⟩; conv => whnf) | (refine CallX.of (s104 n L hL _ ?_ ?_ 1 20 ?_ ?_ ?_) [(1000000, 1000000)] rfl ⟨lr, lr, lr, trivial⟩ ⟨rr, trivial⟩ rfl rfl ?_; rotate_right; rintro x rout ⟨⟨u3, hk1, hk2, rfl⟩, ⟨c, c1, c2, rfl⟩⟩; refine ⟨rfl, ?_⟩; conv => whnf) | (refine br_intro ?_ ?_ <;> intro hb <;> (try simp only [brs] at hb) <;> conv => whnf) | (refine RegX.rule (id := 11) hT rfl [] oVPiD8_11 (by decide +kernel) ?_; conv => whnf) | (refine RegX.rule (id := 16) hT rfl [] oVPiD8_16 (by decide +kernel) ?_; conv => whnf) | (refine RegX.rule (id := 23) hT rfl [] oVPiD8_23 (by decide +kernel) ?_; conv => whnf) | omega | (refine And.intro ?_ ?_; ((try dsimp only); first | omega | (refine szA rfl ?_; omega) | (refine szB rfl ?_; omega) | (unfold inI64; omega) | exact rfl | (simp only [lns] at *; omega) | decide | (unfold inI64; decide)); conv => whnf) | decide | assumption)
      all_goals first
       | (first
           | refine .freeze _ 11 70 3 _ _ rfl (.weak _ ?_)
           | refine .freeze _ 200 70 3 _ _ rfl (.weak _ ?_)
           | refine .freeze _ 300 70 3 _ _ rfl (.weak _ ?_)
          (conv => whnf)
          have hx := hsh.2 (e.getD j.toNat mv0) (getD_mem (by omega))
          have hq1 := three_len hu1 hx.1 (by decide) (by decide)
          exact ⟨_, [(1000000, strm n L _)], SV.le_upd2 (f := mvF) (d := mv0) (l := e) (fun y : Mov => { y with a := u1 }) (fun y => { y with many := u3 }) (fun _ => rfl) (fun _ => rfl), ⟨⟨_, allK_upd (g := fun y : Mov => { y with many := u3 }) (allK_upd (g := fun y : Mov => { y with a := u1 }) hsh (fun y hy => ⟨hq1, hy.2⟩)) (fun y hy => hy), rfl⟩, _, by omega, by omega, rfl⟩, rr, trivial⟩)
       | (first
           | refine .freeze _ 11 70 3 _ _ rfl (.weak _ ?_)
           | refine .freeze _ 200 70 3 _ _ rfl (.weak _ ?_)
           | refine .freeze _ 300 70 3 _ _ rfl (.weak _ ?_)
          (conv => whnf)
          exact ⟨_, [(1000000, strm n L _)], lr, ⟨⟨e, hsh, rfl⟩, _, by omega, by omega, rfl⟩, rr, trivial⟩)
  · refine ⟨rfl, ?_⟩
    conv => whnf
    refine CallX.of (z104 n L hL b (by omega) (by omega) c2 (by omega)) [(1000000, 1000000), (1000001, 200), (1000002, 3), (41, 300)] rfl ⟨lr, lr, trivial⟩ ⟨rr, rr, rr, trivial⟩ rfl rfl ?_
    rintro x rout ⟨e, he1, nm, hnm, rfl, c5, ⟨hv1, hv2⟩, rfl⟩
    rcases hnm with rfl | rfl
    · refine ⟨rfl, ?_⟩
      conv => whnf
      have hsh : allK mvG 100 e := ⟨by have := hc1.1; have := hc2.1; have := he1.1; omega, fun p hp => p4.2 p (hc1.2 p (hc2.2 p (he1.2 p hp)))⟩
      have he5 := hsh.1
      repeat' (first | (refine CallX.of (s84 n L hL _ ?_ ?_ _ ?_) [(1000000, 1000000)] rfl ⟨lr, lr, trivial⟩ ⟨rr, trivial⟩ rfl rfl ?_; rotate_right; rintro x rout ⟨⟨f, rfl⟩, ⟨c, c1, c2, rfl⟩⟩; refine ⟨rfl, ?_⟩; conv => whnf) | (refine CallX.of (s86 n L hL _ ?_ ?_ _ ?_) [(1000000, 1000000)] rfl ⟨lr, lr, trivial⟩ ⟨rr, trivial⟩ rfl rfl ?_; rotate_right; rintro x rout ⟨⟨j, hj1, hj2, hj3, rfl⟩, ⟨c, c1, c2, rfl⟩⟩; refine ⟨rfl, ?_⟩; conv => whnf) | (refine CallX.of (s15 n L hL _ ?_ ?_ [(e.getD j.toNat mv0).a, [], [122]] (by simp) (by simp)) [(1000000, 1000000)] rfl ⟨lr, SV.le_lit rfl rfl, trivial⟩ ⟨rr, trivial⟩ rfl rfl ?_; rotate_right; rintro x rout ⟨⟨u1, hu1, rfl⟩, ⟨c, c1, c2, rfl⟩⟩; refine ⟨rfl, ?_⟩; conv => whnf) | (refine CallX.of (s104 n L hL _ ?_ ?_ 1 20 ?_ ?_ ?_) [(1000000, 1000000)] rfl ⟨lr, lr, lr, trivial⟩ ⟨rr, trivial⟩ rfl rfl ?_; rotate_right; rintro x rout ⟨⟨u3, hk1, hk2, rfl⟩, ⟨c, c1, c2, rfl⟩⟩; refine ⟨rfl, ?_⟩; conv => whnf) | (refine br_intro ?_ ?_ <;> intro hb <;> (try simp only [brs] at hb) <;> conv => whnf) | (refine RegX.rule (id := 11) hT rfl [] oVPiD8_11 (by decide +kernel) ?_; conv => whnf) | (refine RegX.rule (id := 16) hT rfl [] oVPiD8_16 (by decide +kernel) ?_; conv => whnf) | (refine RegX.rule (id := 23) hT rfl [] oVPiD8_23 (by decide +kernel) ?_; conv => whnf) | omega | (refine And.intro ?_ ?_; ((try dsimp only); first | omega | (refine szA rfl ?_; omega) | (refine szB rfl ?_; omega) | (unfold inI64; omega) | exact rfl | (simp only [lns] at *; omega) | decide | (unfold inI64; decide)); conv => whnf) | decide | assumption)
      all_goals first
       | (first
           | refine .freeze _ 11 70 3 _ _ rfl (.weak _ ?_)
           | refine .freeze _ 200 70 3 _ _ rfl (.weak _ ?_)
           | refine .freeze _ 300 70 3 _ _ rfl (.weak _ ?_)
          (conv => whnf)
          have hx := hsh.2 (e.getD j.toNat mv0) (getD_mem (by omega))
          have hq1 := three_len hu1 hx.1 (by decide) (by decide)
          exact ⟨_, [(1000000, strm n L _)], SV.le_upd2 (f := mvF) (d := mv0) (l := e) (fun y : Mov => { y with a := u1 }) (fun y => { y with many := u3 }) (fun _ => rfl) (fun _ => rfl), ⟨⟨_, allK_upd (g := fun y : Mov => { y with many := u3 }) (allK_upd (g := fun y : Mov => { y with a := u1 }) hsh (fun y hy => ⟨hq1, hy.2⟩)) (fun y hy => hy), rfl⟩, _, by omega, by omega, rfl⟩, rr, trivial⟩)
       | (first
           | refine .freeze _ 11 70 3 _ _ rfl (.weak _ ?_)
           | refine .freeze _ 200 70 3 _ _ rfl (.weak _ ?_)
           | refine .freeze _ 300 70 3 _ _ rfl (.weak _ ?_)
          (conv => whnf)
          exact ⟨_, [(1000000, strm n L _)], lr, ⟨⟨e, hsh, rfl⟩, _, by omega, by omega, rfl⟩, rr, trivial⟩)
    · refine ⟨rfl, ?_⟩
      conv => whnf
      have hsh : allK mvG 100 e := ⟨by have := hc1.1; have := hc2.1; have := he1.1; omega, fun p hp => p4.2 p (hc1.2 p (hc2.2 p (he1.2 p hp)))⟩
      have he5 := hsh.1
      repeat' (first | (refine CallX.of (s84 n L hL _ ?_ ?_ _ ?_) [(1000000, 1000000)] rfl ⟨lr, lr, trivial⟩ ⟨rr, trivial⟩ rfl rfl ?_; rotate_right; rintro x rout ⟨⟨f, rfl⟩, ⟨c, c1, c2, rfl⟩⟩; refine ⟨rfl, ?_⟩; conv => whnf) | (refine CallX.of (s86 n L hL _ ?_ ?_ _ ?_) [(1000000, 1000000)] rfl ⟨lr, lr, trivial⟩ ⟨rr, trivial⟩ rfl rfl ?_; rotate_right; rintro x rout ⟨⟨j, hj1, hj2, hj3, rfl⟩, ⟨c, c1, c2, rfl⟩⟩; refine ⟨rfl, ?_⟩; conv => whnf) | (refine CallX.of (s15 n L hL _ ?_ ?_ [(e.getD j.toNat mv0).a, [], [122]] (by simp) (by simp)) [(1000000, 1000000)] rfl ⟨lr, SV.le_lit rfl rfl, trivial⟩ ⟨rr, trivial⟩ rfl rfl ?_; rotate_right; rintro x rout ⟨⟨u1, hu1, rfl⟩, ⟨c, c1, c2, rfl⟩⟩; refine ⟨rfl, ?_⟩; conv => whnf) | (refine CallX.of (s104 n L hL _ ?_ ?_ 1 20 ?_ ?_ ?_) [(1000000, 1000000)] rfl ⟨lr, lr, lr, trivial⟩ ⟨rr, trivial⟩ rfl rfl ?_; rotate_right; rintro x rout ⟨⟨u3, hk1, hk2, rfl⟩, ⟨c, c1, c2, rfl⟩⟩; refine ⟨rfl, ?_⟩; conv => whnf) | (refine br_intro ?_ ?_ <;> intro hb <;> (try simp only [brs] at hb) <;> conv => whnf) | (refine RegX.rule (id := 11) hT rfl [] oVPiD8_11 (by decide +kernel) ?_; conv => whnf) | (refine RegX.rule (id := 16) hT rfl [] oVPiD8_16 (by decide +kernel) ?_; conv => whnf) | (refine RegX.rule (id := 23) hT rfl [] oVPiD8_23 (by decide +kernel) ?_; conv => whnf) | omega | (refine And.intro ?_ ?_; ((try dsimp only); first | omega | (refine szA rfl ?_; omega) | (refine szB rfl ?_; omega) | (unfold inI64; omega) | exact rfl | (simp only [lns] at *; omega) | decide | (unfold inI64; decide)); conv => whnf) | decide | assumption)
      all_goals first
       | (first
           | refine .freeze _ 11 70 3 _ _ rfl (.weak _ ?_)
           | refine .freeze _ 200 70 3 _ _ rfl (.weak _ ?_)
           | refine .freeze _ 300 70 3 _ _ rfl (.weak _ ?_)
          (conv => whnf)
          have hx := hsh.2 (e.getD j.toNat mv0) (getD_mem (by omega))
          have hq1 := three_len hu1 hx.1 (by decide) (by decide)
          exact ⟨_, [(1000000, strm n L _)], SV.le_upd2 (f := mvF) (d := mv0) (l := e) (fun y : Mov => { y with a := u1 }) (fun y => { y with many := u3 }) (fun _ => rfl) (fun _ => rfl), ⟨⟨_, allK_upd (g := fun y : Mov => { y with many := u3 }) (allK_upd (g := fun y : Mov => { y with a := u1 }) hsh (fun y hy => ⟨hq1, hy.2⟩)) (fun y hy => hy), rfl⟩, _, by omega, by omega, rfl⟩, rr, trivial⟩)
       | (first
           | refine .freeze _ 11 70 3 _ _ rfl (.weak _ ?_)
           | refine .freeze _ 200 70 3 _ _ rfl (.weak _ ?_)
           | refine .freeze _ 300 70 3 _ _ rfl (.weak _ ?_)
          (conv => whnf)
          exact ⟨_, [(1000000, strm n L _)], lr, ⟨⟨e, hsh, rfl⟩, _, by omega, by omega, rfl⟩, rr, trivial⟩)
def dst (N : Nat) (D : List Int) (s : Int) (v : Nat) : Int := if v < N then getI D v else s
structure RelI (G : Nw) (R : Nat × Bool → Prop) (p : Nat → Int) (P : Int) (D0 : List Int) (s0 : Int) (D : List Int) (s : Int) (ch : Bool) (Q : Nat × Bool → Prop) : Prop where
 len : D.length = G.N
 pw : ∃ b, G.ext.Pw R p P (dst G.N D s) b
 no : ch = false → (D = D0 ∧ s = s0) ∧ ∀ e, R e → Q e → dst G.N D s (G.ext.hd e) ≤ dst G.N D s (G.ext.tl e) + G.ext.cc e
 yes : ch = true → su (dst G.N D s) (G.N + 1) < su (dst G.N D0 s0) (G.N + 1)
theorem RelI.weak {G : Nw} {R : Nat × Bool → Prop} {p : Nat → Int} {P : Int} {D0 D : List Int} {s0 s : Int} {ch : Bool} {Q Q' : Nat × Bool → Prop} (h : RelI G R p P D0 s0 D s ch Q) (hq : ∀ e, R e → Q' e → Q e) : RelI G R p P D0 s0 D s ch Q' :=
 ⟨h.len, h.pw, fun z => ⟨(h.no z).1, fun e he q => (h.no z).2 e he (hq e he q)⟩, h.yes⟩
theorem RelI.le {G : Nw} {R : Nat × Bool → Prop} {p : Nat → Int} {P : Int} {D0 D : List Int} {s0 s : Int} {ch : Bool} {Q : Nat × Bool → Prop} (h : RelI G R p P D0 s0 D s ch Q) : su (dst G.N D s) (G.N + 1) ≤ su (dst G.N D0 s0) (G.N + 1) := by
 cases hc : ch with
 | false => obtain ⟨⟨e1, e2⟩, _⟩ := h.no hc; rw [e1, e2]; exact Int.le_refl _
 | true => have := h.yes hc; omega
theorem ext_arc {G : Nw} {k : Nat} (hk : k < G.K) (b : Bool) : G.ext.hd (k, b) = G.hd (k, b) ∧ G.ext.tl (k, b) = G.tl (k, b) ∧ G.ext.cc (k, b) = G.cc (k, b) := by
 have e1 : G.ext.fr k = G.fr k := if_pos hk
 have e2 : G.ext.to k = G.to k := if_pos hk
 have e3 : G.ext.c k = G.c k := if_pos hk
 cases b
 · exact ⟨e2, e1, e3⟩
 · exact ⟨e1, e2, congrArg Neg.neg e3⟩
theorem ext_in {G : Nw} (i : Nat) (b : Bool) : G.ext.hd (G.K + i, b) = (if b = true then G.N else i) ∧ G.ext.tl (G.K + i, b) = (if b = true then i else G.N) ∧ G.ext.cc (G.K + i, b) = 0 := by
 have e1 : G.ext.fr (G.K + i) = G.N := if_neg (by omega)
 have e2 : G.ext.to (G.K + i) = i := by show (if G.K + i < G.K then G.to (G.K + i) else G.K + i - G.K) = i; rw [if_neg (by omega)]; omega
 have e3 : G.ext.c (G.K + i) = 0 := if_neg (by omega)
 cases b
 · exact ⟨e2, e1, e3⟩
 · exact ⟨e1, e2, by show - G.ext.c (G.K + i) = 0; rw [e3]; rfl⟩
theorem RelI.bd {G : Nw} {R : Nat × Bool → Prop} {p : Nat → Int} {P C : Int} {D0 D : List Int} {s0 s : Int} {ch : Bool} {Q : Nat × Bool → Prop} (h : RelI G R p P D0 s0 D s ch Q) (hE : G.ext.Ok) (hp : G.ext.Op R p) (hC : 0 ≤ C) (hc : ∀ e, R e → - C ≤ G.ext.cc e) : (∀ v, v < G.N → - (C * G.N) ≤ D.getD v 0 ∧ D.getD v 0 ≤ 0) ∧ - (C * G.N) ≤ s ∧ s ≤ 0 := by
 obtain ⟨b, hb⟩ := h.pw
 have key : ∀ v, v < G.N + 1 → - (C * G.N) ≤ dst G.N D s v ∧ dst G.N D s v ≤ 0 := fun v hv => by
  have := hb.bd hE hC hp hc (v := v) hv
  have e : ((G.ext.N : Int) - 1) = G.N := by show (((G.N + 1 : Nat) : Int) - 1) = G.N; omega
  rw [e] at this; exact this
 refine ⟨fun v hv => ?_, ?_⟩
 · have := key v (by omega)
   unfold dst at this; rw [if_pos hv] at this; exact this
 · have := key G.N (by omega)
   unfold dst at this; rw [if_neg (Nat.lt_irrefl _)] at this; exact this
def gonF (G : Nw) (f : Nat → Int) (k v : Nat) : Int := su (fun j => if G.fr j = v then f j else 0) k
theorem gonF_all {G : Nw} {B : Nat → Bool} (hb : G.Bip B) {h w f left : Nat → Int} (hs : G.St h w f left (fun _ => 0)) (hw : ∀ v, v < G.N → B v = true → w v = 0) {v : Nat} (hv : v < G.N) (hB : B v = true) : gonF G f G.K v = h v - left v := by
 have h1 := hs.net v hv
 rw [hw v hv hB] at h1
 have e : G.net f v = gonF G f G.K v := su_congr fun k hk => by
  have := hb.to k hk
  have hne : ¬ G.to k = v := fun q => by rw [q, hB] at this; exact absurd this.2 (by simp)
  rw [if_neg hne]; omega
 rw [e] at h1; omega
theorem gonF_none {G : Nw} {B : Nat → Bool} (hb : G.Bip B) {f : Nat → Int} {v : Nat} (hB : B v = false) : gonF G f G.K v = 0 := su_zero fun k hk => by
 have := hb.fr k hk
 rw [if_neg]
 intro q; rw [q, hB] at this; exact absurd this.2 (by simp)
structure Pri where
 st : List UInt8
 cents : Int
structure PrvI (n : List Ned) (r : List Roa) (C : List Arc) (left p : Nat → Int) : Prop where
 sm : Sm (arcs n r) C
 st : (nwG n r).St (getI (havL n)) (getI (wntL n)) (floA C) left (fun _ => 0)
 pt : (nwG n r).Pot (getI (havL n)) (floA C) left p
abbrev gonG (n : List Ned) (r : List Roa) (C : List Arc) : Nat → Int := gonF (nwG n r) (floA C) (nwG n r).K
abbrev opnG (n : List Ned) (r : List Roa) (C : List Arc) : Nat × Bool → Prop := (nwG n r).opn (getI (havL n)) (floA C) (gonG n r C)
abbrev potG (n : List Ned) (r : List Roa) (p : Nat → Int) (v : Nat) : Int := if v < (nwG n r).N then p v else 0
theorem PrvI.gon {n : List Ned} {r : List Roa} {C : List Arc} {left p : Nat → Int} (h : PrvI n r C left p) (hn : ndsE n = 0) {v : Nat} (hv : v < n.length) : (kindB n v = true → gonG n r C v = getI (havL n) v - left v) ∧ 0 ≤ gonG n r C v ∧ gonG n r C v ≤ 20 := by
 have hB := nwG_bip n r
 have h1 := fun hk => gonF_all hB h.st (fun v hv hk => by rw [getI_wnt hv]; have := kindB_get.2 hk; unfold wntF; omega) hv hk
 refine ⟨h1, ?_⟩
 cases hk : kindB n v with
 | true =>
   have h2 := h1 hk
   have h3 := h.st.left0 v hv
   have h4 := (havF_bd hn v).1
   rw [getI_hav hv] at h2 h3
   show 0 ≤ gonF _ _ _ _ ∧ gonF _ _ _ _ ≤ 20
   omega
 | false =>
   have := gonF_none (G := nwG n r) (f := floA C) hB hk
   show 0 ≤ gonF _ _ _ _ ∧ gonF _ _ _ _ ≤ 20
   omega
theorem PrvI.op {n : List Ned} {r : List Roa} {C : List Arc} {left p : Nat → Int} (h : PrvI n r C left p) (hn : ndsE n = 0) (hr : rdsE r = 0) : (nwG n r).ext.Op (opnG n r C) (potG n r p) := by
 refine Nw.ext_op (nwG_ok (n := n) hr).1 h.pt fun v hv h0 => ?_
 refine (h.gon hn hv).1 ?_
 cases hk : kindB n v with
 | true => rfl
 | false =>
   rw [getI_hav hv] at h0
   have := kindB_get.1 hk
   unfold havF at h0; omega
theorem opn_cc {n : List Ned} {r : List Roa} {C : List Arc} (hr : rdsE r = 0) : ∀ e, opnG n r C e → -1000000 ≤ (nwG n r).ext.cc e := by
 rintro ⟨k, b⟩ ⟨h1, _, _⟩
 by_cases hk : k < (nwG n r).K
 · rw [(ext_arc hk b).2.2]
   have h2 := (nwG_ok (n := n) hr).1.c0 k hk
   have h3 := (nwG_ok (n := n) hr).2 k hk
   cases b
   · show -1000000 ≤ (nwG n r).c k; omega
   · show -1000000 ≤ - (nwG n r).c k; omega
 · obtain ⟨i, rfl⟩ : ∃ i, k = (nwG n r).K + i := ⟨k - (nwG n r).K, by omega⟩
   rw [(ext_in i b).2.2]; omega
abbrev RelG (n : List Ned) (r : List Roa) (C : List Arc) (p : Nat → Int) (D0 : List Int) (s0 : Int) (D : List Int) (s : Int) (ch : Bool) (Q : Nat × Bool → Prop) : Prop := RelI (nwG n r) (opnG n r C) (potG n r p) (su (potG n r p) ((nwG n r).N + 1)) D0 s0 D s ch Q
theorem RelG.b {n : List Ned} {r : List Roa} {C : List Arc} {left p : Nat → Int} (hI : PrvI n r C left p) (hn : ndsE n = 0) (hr : rdsE r = 0) {D0 D : List Int} {s0 s : Int} {ch : Bool} {Q : Nat × Bool → Prop} (h : RelG n r C p D0 s0 D s ch Q) : D.length = n.length ∧ (∀ v, v < n.length → -10000000 ≤ D.getD v 0 ∧ D.getD v 0 ≤ 0) ∧ -10000000 ≤ s ∧ s ≤ 0 := by
 have hl := (nds_all hn).1
 obtain ⟨h1, h2⟩ := h.bd (C := 1000000) (Nw.ext_ok (nwG_ok (n := n) hr).1) (hI.op hn hr) (by omega) (opn_cc hr)
 have hN : ((nwG n r).N : Int) = n.length := rfl
 refine ⟨h.len, fun v hv => ?_, by omega, by omega⟩
 have := h1 v hv
 omega
theorem mul_nb {x y a b : Int} (h1 : 0 ≤ x ∧ x ≤ a) (h2 : 0 ≤ y ∧ y ≤ b) : 0 ≤ x * y ∧ x * y ≤ a * b :=
 ⟨Int.mul_nonneg h1.1 h2.1, Int.mul_le_mul h1.2 h2.2 h2.1 (by omega)⟩
def mvP (l : List Mov) : Prop := l.length ≤ 2500 ∧ ∀ m ∈ l, 0 ≤ m.many ∧ m.many ≤ 1000000
theorem costN_b2 {r : List Roa} {l : List Mov} (hr : rdsE r = 0) (h : mvP l) : ∀ k, k ≤ l.length → 0 ≤ costN r l k ∧ costN r l k ≤ 1000000000000 * k := by
 intro k
 induction k with
 | zero => intro _; simp [costN]
 | succ k ih =>
   intro hk
   have h1 := ih (by omega)
   have h2 := h.2 _ (getD_mem (l := l) (x := mv0) (i := k) (by omega))
   have h3 := roadC_bd hr (l.getD k mv0).a (l.getD k mv0).b
   have h4 := mul_nb h2 h3
   rw [costN]
   omega
set_option maxHeartbeats 4000000 in
theorem p17 (r : List Roa) (l : List Mov) (hr : rdsE r = 0) (hl : mvP l) : FSpec Tryz.prog 17 [.d (roas r), .d (movs l)] [] (fun y q => y = .d (.int .i64 (costN r l l.length)) ∧ q = []) := by
 have hrl := (rds_all hr).1
 have hll := hl.1
 refine spec_of hT (C := []) Tryz.func17 rfl Tryz.call17 rfl rfl rfl ?_
 conv => whnf
 repeat' (first | (refine br_intro ?_ ?_ <;> intro hb <;> (try simp only [brs] at hb) <;> conv => whnf) | omega | (refine And.intro ?_ ?_; ((try dsimp only); first | omega | (refine szA rfl ?_; omega) | (refine szB rfl ?_; omega) | (unfold inI64; omega) | exact rfl | (simp only [lns] at *; omega) | decide | (unfold inI64; decide)); conv => whnf) | decide | assumption)
 refine LoopX.rule hT (C := []) (ι := Nat) (fun i => i ≤ l.length) (fun i => mkSt [(0, .d (roas r)), (5, .d (.int .i64 (costN r l i))), (10, .d (movs l)), (11, .d (.int .i64 l.length)), (12, .d (.int .i64 i))] []) (fun i => l.length - i) 0 (Nat.zero_le _) ?_ ?_
 · exact Entails.mk' [] rfl rfl ⟨lr, lr, lr, lr, lr, trivial⟩ trivial
 rintro i hi
 have hi : i ≤ l.length := hi
 have e1 : (i : Int).toNat = i := Int.toNat_natCast i
 have hb1 := costN_b2 hr hl i hi
 rcases Nat.lt_or_ge i l.length with hil | hil
 · have h2 := hl.2 _ (getD_mem (l := l) (x := mv0) (i := (i : Int).toNat) (by omega))
   have h3 := roadC_bd hr (l.getD (i : Int).toNat mv0).a (l.getD (i : Int).toNat mv0).b
   have h4 := mul_nb h2 h3
   have h113 := z113 r (by omega) (l.getD (i : Int).toNat mv0).a (l.getD (i : Int).toNat mv0).b
   conv => whnf
   repeat' (first | (refine CallX.exact (h113) rfl rfl ?_; rotate_right; conv => whnf) | (refine And.intro (show inI64 ((l.getD (i : Int).toNat mv0).many * ((roadO r (l.getD (i : Int).toNat mv0).a (l.getD (i : Int).toNat mv0).b).getD rd0).car) by unfold inI64; omega) ?_; conv => whnf) | (refine And.intro (show inI64 (costN r l i + (l.getD (i : Int).toNat mv0).many * ((roadO r (l.getD (i : Int).toNat mv0).a (l.getD (i : Int).toNat mv0).b).getD rd0).car) by unfold inI64; omega) ?_; conv => whnf) | (refine br_intro ?_ ?_ <;> intro hb <;> (try simp only [brs] at hb) <;> conv => whnf) | omega | (refine And.intro ?_ ?_; ((try dsimp only); first | omega | (refine szA rfl ?_; omega) | (refine szB rfl ?_; omega) | (unfold inI64; omega) | exact rfl | (simp only [lns] at *; omega) | decide | (unfold inI64; decide)); conv => whnf) | decide | assumption)
   all_goals try (exfalso; omega)
   exact ⟨i + 1, hil, by show l.length - (i + 1) < l.length - i; omega, Entails.mk' [] rfl rfl ⟨lr, lr, lr, lr, lr, trivial⟩ trivial⟩
 · have hil : i = l.length := by omega
   subst hil
   conv => whnf
   repeat' (first | (refine br_intro ?_ ?_ <;> intro hb <;> (try simp only [brs] at hb) <;> conv => whnf) | omega | (refine And.intro ?_ ?_; ((try dsimp only); first | omega | (refine szA rfl ?_; omega) | (refine szB rfl ?_; omega) | (unfold inI64; omega) | exact rfl | (simp only [lns] at *; omega) | decide | (unfold inI64; decide)); conv => whnf) | decide | assumption)
   all_goals try (exfalso; omega)
   refine .ret _ ?_
   conv => whnf
   refine ⟨[], ⟨?_, rfl⟩, trivial⟩
   conv => lhs; whnf
theorem p56 (l : List Ned) (s : List UInt8) (hl : l.length ≤ 2^40) : FSpec Tryz.prog 56 [.d (neds l), .d (.str s)] [] (fun y r => y = .d (.int .i64 (manyN l s)) ∧ r = []) := by
 refine spec_of hT (C := []) Tryz.func56 rfl Tryz.call56 rfl rfl rfl ?_
 conv => whnf
 repeat' (first | (refine br_intro ?_ ?_ <;> intro hb <;> (try simp only [brs] at hb) <;> conv => whnf) | omega | (refine And.intro ?_ ?_; ((try dsimp only); first | omega | (refine szA rfl ?_; omega) | (refine szB rfl ?_; omega) | (unfold inI64; omega) | exact rfl | (simp only [lns] at *; omega) | decide | (unfold inI64; decide)); conv => whnf) | decide | assumption)
 refine LoopX.rule hT (C := []) (ι := Nat) (fun i => i ≤ l.length ∧ ∀ j, j < i → ((l.getD j nd0).st == s) = false) (fun i => mkSt [(1, .d (.str s)), (7, .d (neds l)), (8, .d (.int .i64 l.length)), (9, .d (.int .i64 i))] []) (fun i => l.length - i) 0 ⟨Nat.zero_le _, fun j hj => absurd hj (Nat.not_lt_zero _)⟩ ?_ ?_
 · exact Entails.mk' [] rfl rfl ⟨lr, lr, lr, lr, trivial⟩ trivial
 rintro i ⟨hi, ha⟩
 have hi : i ≤ l.length := hi
 have ha : ∀ j, j < i → ((l.getD j nd0).st == s) = false := ha
 rcases Nat.lt_or_ge i l.length with hil | hil
 · conv => whnf
   repeat' (first | (refine br_intro ?_ ?_ <;> intro hb <;> (try simp only [brs] at hb) <;> conv => whnf) | omega | (refine And.intro ?_ ?_; ((try dsimp only); first | omega | (refine szA rfl ?_; omega) | (refine szB rfl ?_; omega) | (unfold inI64; omega) | exact rfl | (simp only [lns] at *; omega) | decide | (unfold inI64; decide)); conv => whnf) | decide | assumption)
   all_goals try (exfalso; omega)
   · refine .ret _ ?_
     conv => whnf
     refine ⟨[], ⟨?_, rfl⟩, trivial⟩
     conv => lhs; whnf
     have h1 : nedX l s = i := ixF_hit hil ha (by simpa using hb)
     unfold manyN
     rw [h1, if_pos (by omega), Int.toNat_natCast]
   · exact ⟨i + 1, ⟨hil, fun j hj => by
      by_cases q : j = i
      · rw [q]; simpa using hb
      · exact ha j (by omega)⟩, by omega, Entails.mk' [] rfl rfl ⟨lr, lr, lr, lr, trivial⟩ trivial⟩
 · have hil : i = l.length := by omega
   subst hil
   conv => whnf
   repeat' (first | (refine br_intro ?_ ?_ <;> intro hb <;> (try simp only [brs] at hb) <;> conv => whnf) | omega | (refine And.intro ?_ ?_; ((try dsimp only); first | omega | (refine szA rfl ?_; omega) | (refine szB rfl ?_; omega) | (unfold inI64; omega) | exact rfl | (simp only [lns] at *; omega) | decide | (unfold inI64; decide)); conv => whnf) | decide | assumption)
   all_goals try (exfalso; omega)
   refine .ret _ ?_
   conv => whnf
   refine ⟨[], ⟨?_, rfl⟩, trivial⟩
   conv => lhs; whnf
   have h1 : nedX l s = -1 := ixF_none ha
   unfold manyN
   rw [h1, if_neg (by omega)]
theorem p50 (l : List Ned) (s : List UInt8) (hl : l.length ≤ 2^40) : FSpec Tryz.prog 50 [.d (neds l), .d (.str s)] [] (fun y r => y = .d (.int .i64 (manyN l s)) ∧ r = []) := by
 refine spec_of hT (C := []) Tryz.func50 rfl Tryz.call50 rfl rfl rfl ?_
 conv => whnf
 repeat' (first | (refine br_intro ?_ ?_ <;> intro hb <;> (try simp only [brs] at hb) <;> conv => whnf) | omega | (refine And.intro ?_ ?_; ((try dsimp only); first | omega | (refine szA rfl ?_; omega) | (refine szB rfl ?_; omega) | (unfold inI64; omega) | exact rfl | (simp only [lns] at *; omega) | decide | (unfold inI64; decide)); conv => whnf) | decide | assumption)
 refine LoopX.rule hT (C := []) (ι := Nat) (fun i => i ≤ l.length ∧ ∀ j, j < i → ((l.getD j nd0).st == s) = false) (fun i => mkSt [(1, .d (.str s)), (7, .d (neds l)), (8, .d (.int .i64 l.length)), (9, .d (.int .i64 i))] []) (fun i => l.length - i) 0 ⟨Nat.zero_le _, fun j hj => absurd hj (Nat.not_lt_zero _)⟩ ?_ ?_
 · exact Entails.mk' [] rfl rfl ⟨lr, lr, lr, lr, trivial⟩ trivial
 rintro i ⟨hi, ha⟩
 have hi : i ≤ l.length := hi
 have ha : ∀ j, j < i → ((l.getD j nd0).st == s) = false := ha
 rcases Nat.lt_or_ge i l.length with hil | hil
 · conv => whnf
   repeat' (first | (refine br_intro ?_ ?_ <;> intro hb <;> (try simp only [brs] at hb) <;> conv => whnf) | omega | (refine And.intro ?_ ?_; ((try dsimp only); first | omega | (refine szA rfl ?_; omega) | (refine szB rfl ?_; omega) | (unfold inI64; omega) | exact rfl | (simp only [lns] at *; omega) | decide | (unfold inI64; decide)); conv => whnf) | decide | assumption)
   all_goals try (exfalso; omega)
   · refine .ret _ ?_
     conv => whnf
     refine ⟨[], ⟨?_, rfl⟩, trivial⟩
     conv => lhs; whnf
     have h1 : nedX l s = i := ixF_hit hil ha (by simpa using hb)
     unfold manyN
     rw [h1, if_pos (by omega), Int.toNat_natCast]
   · exact ⟨i + 1, ⟨hil, fun j hj => by
      by_cases q : j = i
      · rw [q]; simpa using hb
      · exact ha j (by omega)⟩, by omega, Entails.mk' [] rfl rfl ⟨lr, lr, lr, lr, trivial⟩ trivial⟩
 · have hil : i = l.length := by omega
   subst hil
   conv => whnf
   repeat' (first | (refine br_intro ?_ ?_ <;> intro hb <;> (try simp only [brs] at hb) <;> conv => whnf) | omega | (refine And.intro ?_ ?_; ((try dsimp only); first | omega | (refine szA rfl ?_; omega) | (refine szB rfl ?_; omega) | (unfold inI64; omega) | exact rfl | (simp only [lns] at *; omega) | decide | (unfold inI64; decide)); conv => whnf) | decide | assumption)
   all_goals try (exfalso; omega)
   refine .ret _ ?_
   conv => whnf
   refine ⟨[], ⟨?_, rfl⟩, trivial⟩
   conv => lhs; whnf
   have h1 : nedX l s = -1 := ixF_none ha
   unfold manyN
   rw [h1, if_neg (by omega)]
def hsN (l : List Mov) (s : List UInt8) : Nat → Bool
 | 0 => false
 | k + 1 => decide (s = (l.getD k mv0).b) || (decide (s = (l.getD k mv0).a) || hsN l s k)
def keyT : List DV → List UInt8
 | [.str s] => s
 | _ => []
abbrev mvdR (l : List Mov) (k : Nat) : Res := .map false false [.str] [.int .i64 0] (fun K => hsN l (keyT K) k) (fun K => [.int .i64 (mvdN l (keyT K) k)])
theorem mvdN_bd {l : List Mov} (h : mvsE l = 0) (s : List UInt8) {k : Nat} (hk : k ≤ l.length) : -50000 ≤ mvdN l s k ∧ mvdN l s k ≤ 50000 := by
 have h1 := awayN_bd h s k hk
 have h2 := hereN_bd h s k hk
 have h3 := (mvs_all h).1
 rw [mvdN_eq]; omega
theorem mvdR_step {l : List Mov} {k : Nat} (hab : (l.getD k mv0).a ≠ (l.getD k mv0).b) : Res.le (.map false false [.str] [.int .i64 0] (fun q => keyEq q [.str (l.getD k mv0).b] || (keyEq q [.str (l.getD k mv0).a] || hsN l (keyT q) k))
 (fun q => bif keyEq q [.str (l.getD k mv0).b] then [.int .i64 (mvdN l (l.getD k mv0).b k - (l.getD k mv0).many)] else bif keyEq q [.str (l.getD k mv0).a] then [.int .i64 (mvdN l (l.getD k mv0).a k + (l.getD k mv0).many)] else [.int .i64 (mvdN l (keyT q) k)])) (mvdR l (k + 1)) := Res.le_map fun K hK => by
 obtain ⟨s, rfl⟩ := wk_str hK
 rw [keyEq_str, keyEq_str]
 refine ⟨rfl, ?_⟩
 show (bif decide (s = (l.getD k mv0).b) then [DV.int .i64 (mvdN l (l.getD k mv0).b k - (l.getD k mv0).many)] else bif decide (s = (l.getD k mv0).a) then [.int .i64 (mvdN l (l.getD k mv0).a k + (l.getD k mv0).many)] else [.int .i64 (mvdN l s k)]) = [.int .i64 (mvdN l s (k + 1))]
 rw [mvdN]
 by_cases q : s = (l.getD k mv0).b
 · have q2 : ¬ (l.getD k mv0).a = s := fun z => hab (z.trans q)
   rw [decide_eq_true q, if_neg q2, if_pos q.symm, ← q]
   show [DV.int .i64 _] = _
   rw [show mvdN l s k - (l.getD k mv0).many = mvdN l s k + 0 - (l.getD k mv0).many by omega]
 · have q3 : ¬ (l.getD k mv0).b = s := fun z => q z.symm
   rw [decide_eq_false q, if_neg q3]
   by_cases q2 : s = (l.getD k mv0).a
   · rw [decide_eq_true q2, if_pos q2.symm, ← q2]
     show [DV.int .i64 _] = _
     rw [Int.sub_zero]
   · have q4 : ¬ (l.getD k mv0).a = s := fun z => q2 z.symm
     rw [decide_eq_false q2, if_neg q4]
     show [DV.int .i64 _] = _
     rw [Int.add_zero, Int.sub_zero]
theorem mov_ab {l : List Mov} (h : mvsE l = 0) {i : Nat} (hi : i < l.length) : (l.getD i mv0).a ≠ (l.getD i mv0).b := fun q => by
 have := (mvs_all h).2 i hi
 unfold mvE at this
 simp only [q] at this
 grind
def plnE (n : List Ned) (r : List Roa) (l : List Mov) : Int := if firstE [ndsE n, rdsE r, mvsE l] ≠ 0 then firstE [ndsE n, rdsE r, mvsE l] else planE n r l
theorem firstE_tri {a b c : Int} (h : firstE [a, b, c] = 0) : a = 0 ∧ b = 0 ∧ c = 0 := by
 by_cases ha : a = 0
 · rw [firstE, if_pos ha] at h
   exact ⟨ha, firstE_two h⟩
 · rw [firstE, if_neg ha] at h; exact absurd h ha
set_option maxHeartbeats 8000000 in
theorem p18 (n : List Ned) (r : List Roa) (l : List Mov) (hn : ndOk n) (hr : rdOk r) (hl : mvOk l) : FSpec Tryz.prog 18 [.d (neds n), .d (roas r), .d (movs l)] [] (fun y q => y = .d (.int .i64 (plnE n r l)) ∧ q = []) := by
 obtain ⟨E0, hE0⟩ : ∃ e, firstE [ndsE n, rdsE r, mvsE l] = e := ⟨_, rfl⟩
 have h53 := s105 [ndsE n, rdsE r, mvsE l] (by simp)
 rw [hE0] at h53
 have h12 := s163 n hn
 have h13 := s164 r hr
 have h54 := z116 l hl
 unfold plnE
 rw [hE0]
 by_cases h0 : E0 = 0
 · subst h0
   obtain ⟨z1, z2, z3⟩ := firstE_tri hE0
   have hnl := (nds_all z1).1
   have hml := (mvs_all z3).1
   rw [if_neg (by omega)]
   refine spec_of hT (C := []) Tryz.func18 rfl Tryz.call18 rfl rfl rfl ?_
   conv => whnf
   repeat' (first | (refine CallX.exact (h12) rfl rfl ?_; rotate_right; conv => whnf) | (refine CallX.exact (h13) rfl rfl ?_; rotate_right; conv => whnf) | (refine CallX.exact (h54) rfl rfl ?_; rotate_right; conv => whnf) | (refine CallX.pure h53 ⟨SV.le_lit (by rfl) (by rfl), trivial⟩ rfl ?_; conv => whnf) | (refine CallX.of (z117 r z2) [(3, 29)] rfl ⟨lr, trivial⟩ trivial rfl rfl ?_; rintro x rout ⟨rfl, rfl⟩; refine ⟨rfl, ?_⟩; conv => whnf) | (refine br_intro ?_ ?_ <;> intro hb <;> (try simp only [brs] at hb) <;> conv => whnf) | omega | (refine And.intro ?_ ?_; ((try dsimp only); first | omega | (refine szA rfl ?_; omega) | (refine szB rfl ?_; omega) | (unfold inI64; omega) | exact rfl | (simp only [lns] at *; omega) | decide | (unfold inI64; decide)); conv => whnf) | decide | assumption)
   refine LoopX.rule hT (C := []) (ι := Nat) (fun i => i ≤ l.length ∧ ∀ j, j < i → onPlan n r l j = 0) (fun i => mkSt [(0, .d (neds n)), (8, .mp 29), (9, .mp 30), (31, .d (movs l)), (32, .d (.int .i64 l.length)), (33, .d (.int .i64 i))] [(29, netG r), (30, mvdR l i)]) (fun i => l.length - i) 0 ⟨Nat.zero_le _, fun j hj => absurd hj (Nat.not_lt_zero _)⟩ ?_ ?_
   · exact Entails.mk' [(29, 29), (30, 30)] rfl rfl ⟨lr, lr, lr, lr, lr, lr, trivial⟩ ⟨rr, Res.le_map (fun _ _ => ⟨rfl, rfl⟩), trivial⟩
   rintro i ⟨hi, ha⟩
   have hi : i ≤ l.length := hi
   have ha : ∀ j, j < i → onPlan n r l j = 0 := ha
   have e1 : (i : Int).toNat = i := Int.toNat_natCast i
   rcases Nat.lt_or_ge i l.length with hil | hil
   · have h56a := p56 n (l.getD (i : Int).toNat mv0).a (by omega)
     have h56b := p56 n (l.getD (i : Int).toNat mv0).b (by omega)
     have hab := mov_ab z3 hil
     have hkab : keyEq [.str (l.getD (i : Int).toNat mv0).b] [.str (l.getD (i : Int).toNat mv0).a] = false := by
      rw [keyEq_str, e1]; exact decide_eq_false (fun q => hab q.symm)
     have hbd := mov_bd z3 hil
     rw [← e1] at hbd
     have hv1 := mvdN_bd z3 (l.getD (i : Int).toNat mv0).a hi
     have hv2 := mvdN_bd z3 (l.getD (i : Int).toNat mv0).b hi
     have hbad : ∀ e : Int, e ≠ 0 → onPlan n r l i = e → planE n r l = e := fun e q1 q2 => by
      unfold planE
      have := firstAt_eq hil ha q1 q2
      rw [this, if_pos q1]
     conv => whnf
     repeat' (first | (refine And.intro (show inI64 (mvdN l (l.getD (i : Int).toNat mv0).a i + (l.getD (i : Int).toNat mv0).many) by unfold inI64; omega) ?_; conv => whnf) | (refine And.intro (show inI64 (mvdN l (l.getD (i : Int).toNat mv0).b i - (l.getD (i : Int).toNat mv0).many) by unfold inI64; omega) ?_; conv => whnf) | (refine CallX.exact (h56a) rfl rfl ?_; rotate_right; conv => whnf) | (refine CallX.exact (h56b) rfl rfl ?_; rotate_right; conv => whnf) | (refine And.intro (rfl : zrow _ = some [.str [], .str [], .int .i64 0, .int .i64 0]) ?_; conv => whnf) | (refine And.intro (rfl : zrow _ = some [.int .i64 0]) ?_; conv => whnf) | (refine br_intro ?_ ?_ <;> intro hb <;> (try simp only [brs] at hb) <;> conv => whnf) | omega | (refine And.intro ?_ ?_; ((try dsimp only); first | omega | (refine szA rfl ?_; omega) | (refine szB rfl ?_; omega) | (unfold inI64; omega) | exact rfl | (simp only [lns] at *; omega) | decide | (unfold inI64; decide)); conv => whnf) | decide | assumption)
     all_goals try (exfalso; omega)
     · refine .ret _ ?_
       conv => whnf
       refine ⟨[], ⟨?_, rfl⟩, trivial⟩
       conv => lhs; whnf
       rw [hbad 16 (by decide) (by unfold onPlan; simp only; rw [if_pos (.inl hb)])]
     · refine .ret _ ?_
       conv => whnf
       refine ⟨[], ⟨?_, rfl⟩, trivial⟩
       conv => lhs; whnf
       rw [hbad 16 (by decide) (by unfold onPlan; simp only; rw [if_pos (.inr hb)])]
     · refine .ret _ ?_
       conv => whnf
       refine ⟨[], ⟨?_, rfl⟩, trivial⟩
       conv => lhs; whnf
       have hb2 : (roadO r (l.getD i mv0).a (l.getD i mv0).b).isSome = false := hb
       rw [hbad 8 (by decide) (by unfold onPlan; simp only; rw [if_neg (by omega), if_pos hb2])]
     · have hb2 : (roadO r (l.getD i mv0).a (l.getD i mv0).b).isSome = true := hb
       rename_i q1 q2
       simp only [hkab, cond_false]
       conv => whnf
       repeat' (first | (refine And.intro (show inI64 (mvdN l (l.getD (i : Int).toNat mv0).b i - (l.getD (i : Int).toNat mv0).many) by unfold inI64; omega) ?_; conv => whnf) | (refine And.intro (rfl : zrow _ = some [.int .i64 0]) ?_; conv => whnf) | (refine br_intro ?_ ?_ <;> intro hb <;> (try simp only [brs] at hb) <;> conv => whnf) | omega | (refine And.intro ?_ ?_; ((try dsimp only); first | omega | (refine szA rfl ?_; omega) | (refine szB rfl ?_; omega) | (unfold inI64; omega) | exact rfl | (simp only [lns] at *; omega) | decide | (unfold inI64; decide)); conv => whnf) | decide | assumption)
       refine ⟨i + 1, ⟨hil, first_step ha ?_⟩, by show l.length - (i + 1) < l.length - i; omega, Entails.mk' [(29, 29), (30, 30)] rfl rfl ⟨lr, lr, lr, lr, lr, lr, trivial⟩ ⟨rr, mvdR_step hab, trivial⟩⟩
       unfold onPlan
       simp only
       rw [if_neg (by omega), if_neg (by rw [hb2]; decide)]
   · have hil : i = l.length := by omega
     subst hil
     have hz : firstAt (onPlan n r l) l.length = 0 := firstAt_zero ha
     have hpl : planE n r l = firstAt (sumE n l) n.length := by unfold planE; rw [hz, if_neg (fun q => q rfl)]
     rw [hpl]
     conv => whnf
     repeat' (first | (refine br_intro ?_ ?_ <;> intro hb <;> (try simp only [brs] at hb) <;> conv => whnf) | omega | (refine And.intro ?_ ?_; ((try dsimp only); first | omega | (refine szA rfl ?_; omega) | (refine szB rfl ?_; omega) | (unfold inI64; omega) | exact rfl | (simp only [lns] at *; omega) | decide | (unfold inI64; decide)); conv => whnf) | decide | assumption)
     all_goals try (exfalso; omega)
     refine LoopX.rule hT (C := []) (ι := Nat) (fun i => i ≤ n.length ∧ ∀ j, j < i → sumE n l j = 0) (fun i => mkSt [(9, .mp 30), (76, .d (neds n)), (77, .d (.int .i64 n.length)), (78, .d (.int .i64 i))] [(30, mvdR l l.length)]) (fun i => n.length - i) 0 ⟨Nat.zero_le _, fun j hj => absurd hj (Nat.not_lt_zero _)⟩ ?_ ?_
     · exact Entails.mk' [(30, 30)] rfl rfl ⟨lr, lr, lr, lr, trivial⟩ ⟨rr, trivial⟩
     rintro i ⟨hi, ha⟩
     have hi : i ≤ n.length := hi
     have ha : ∀ j, j < i → sumE n l j = 0 := ha
     have e1 : (i : Int).toNat = i := Int.toNat_natCast i
     rcases Nat.lt_or_ge i n.length with hin | hin
     · have hbad : ∀ e : Int, e ≠ 0 → sumE n l i = e → firstAt (sumE n l) n.length = e := fun e q1 q2 => firstAt_eq hin ha q1 q2
       have hv := mvdN_bd z3 (n.getD i nd0).st (Nat.le_refl l.length)
       conv => whnf
       repeat' (first | (refine And.intro (rfl : zrow _ = some [.int .i64 0]) ?_; conv => whnf) | (refine br_intro ?_ ?_ <;> intro hb <;> (try simp only [brs] at hb) <;> conv => whnf) | omega | (refine And.intro ?_ ?_; ((try dsimp only); first | omega | (refine szA rfl ?_; omega) | (refine szB rfl ?_; omega) | (unfold inI64; omega) | exact rfl | (simp only [lns] at *; omega) | decide | (unfold inI64; decide)); conv => whnf) | decide | assumption)
       all_goals try (exfalso; omega)
       · rename_i q1
         have hb2 : (n.getD i nd0).many < mvdN l (n.getD i nd0).st l.length := hb
         refine .ret _ ?_
         conv => whnf
         refine ⟨[], ⟨?_, rfl⟩, trivial⟩
         conv => lhs; whnf
         rw [hbad 15 (by decide) (by unfold sumE; simp only; rw [if_pos (.inl ⟨q1, hb2⟩)])]
       · rename_i q1 q2
         have q2 : mvdN l (n.getD i nd0).st l.length ≤ (n.getD i nd0).many := q2
         exact ⟨i + 1, ⟨hin, first_step ha (by unfold sumE; simp only; rw [if_neg (by omega)])⟩, by show n.length - (i + 1) < n.length - i; omega, Entails.mk' [(30, 30)] rfl rfl ⟨lr, lr, lr, lr, trivial⟩ ⟨rr, trivial⟩⟩
       · rename_i q1 q2
         have hb2 : ¬ mvdN l (n.getD i nd0).st l.length = (n.getD i nd0).many := hb
         refine .ret _ ?_
         conv => whnf
         refine ⟨[], ⟨?_, rfl⟩, trivial⟩
         conv => lhs; whnf
         rw [hbad 15 (by decide) (by unfold sumE; simp only; rw [if_pos (.inr ⟨q2, hb2⟩)])]
       · have hb2 : mvdN l (n.getD i nd0).st l.length = (n.getD i nd0).many := hb
         exact ⟨i + 1, ⟨hin, first_step ha (by unfold sumE; simp only; rw [if_neg (by omega)])⟩, by show n.length - (i + 1) < n.length - i; omega, Entails.mk' [(30, 30)] rfl rfl ⟨lr, lr, lr, lr, trivial⟩ ⟨rr, trivial⟩⟩
       · exact ⟨i + 1, ⟨hin, first_step ha (by unfold sumE; simp only; rw [if_neg (by omega)])⟩, by show n.length - (i + 1) < n.length - i; omega, Entails.mk' [(30, 30)] rfl rfl ⟨lr, lr, lr, lr, trivial⟩ ⟨rr, trivial⟩⟩
     · have hin : i = n.length := by omega
       subst hin
       conv => whnf
       repeat' (first | (refine br_intro ?_ ?_ <;> intro hb <;> (try simp only [brs] at hb) <;> conv => whnf) | omega | (refine And.intro ?_ ?_; ((try dsimp only); first | omega | (refine szA rfl ?_; omega) | (refine szB rfl ?_; omega) | (unfold inI64; omega) | exact rfl | (simp only [lns] at *; omega) | decide | (unfold inI64; decide)); conv => whnf) | decide | assumption)
       all_goals try (exfalso; omega)
       refine .ret _ ?_
       conv => whnf
       refine ⟨[], ⟨?_, rfl⟩, trivial⟩
       conv => lhs; whnf
       rw [firstAt_zero ha]
 · rw [if_pos h0]
   refine spec_of hT (C := []) Tryz.func18 rfl Tryz.call18 rfl rfl rfl ?_
   conv => whnf
   repeat' (first | (refine CallX.exact (h12) rfl rfl ?_; rotate_right; conv => whnf) | (refine CallX.exact (h13) rfl rfl ?_; rotate_right; conv => whnf) | (refine CallX.exact (h54) rfl rfl ?_; rotate_right; conv => whnf) | (refine CallX.pure h53 ⟨SV.le_lit (by rfl) (by rfl), trivial⟩ rfl ?_; conv => whnf) | (refine br_intro ?_ ?_ <;> intro hb <;> (try simp only [brs] at hb) <;> conv => whnf) | omega | (refine And.intro ?_ ?_; ((try dsimp only); first | omega | (refine szA rfl ?_; omega) | (refine szB rfl ?_; omega) | (unfold inI64; omega) | exact rfl | (simp only [lns] at *; omega) | decide | (unfold inI64; decide)); conv => whnf) | decide | assumption)
   all_goals try (exfalso; omega)
   refine .ret _ ?_
   conv => whnf
   refine ⟨[], ⟨?_, rfl⟩, trivial⟩
   conv => lhs; whnf
def oVPiC16_17 : List (Nat × List Nat) := [(0, []), (1, [0]), (2, [0]), (3, [0, 1, 2]), (4, [0, 1, 2]), (5, [0, 1, 2, 3, 4]), (6, [0, 1, 2, 3, 4]), (7, [0, 1, 2]), (8, [0, 1, 2]), (9, [0]), (10, []), (11, [])]
def oVPiC16_18 : List (Nat × List Nat) := [(0, []), (1, [0]), (2, [0]), (3, [0, 1, 2]), (4, [0, 1, 2]), (5, [0, 1, 2, 3, 4]), (6, [0, 1, 2, 3, 4]), (7, [0, 1, 2]), (8, [0, 1, 2]), (9, [0]), (10, []), (11, [])]
def oVPiC43_6 : List (Nat × List Nat) := [(0, []), (1, [0]), (2, [0]), (3, [0, 1, 2]), (4, [0, 1, 2, 3]), (5, [0, 1, 2, 3]), (6, [0, 1, 2, 3, 4, 5]), (7, [0, 1, 2, 3, 4, 5]), (8, [0, 1, 2, 3]), (9, [0, 1, 2]), (10, [0, 1, 2]), (11, [0]), (12, []), (13, [])]
theorem mvsE_ok {l : List Mov} (h : mvsE l = 0) : mvP l := ⟨(mvs_all h).1, fun m hm => by
 obtain ⟨i, hi, rfl⟩ := mem_getD (d := mv0) hm
 have := mov_bd h hi
 omega⟩
set_option maxHeartbeats 8000000 in
theorem p16 (n : List Ned) (r : List Roa) (l : List Mov) (z1 : ndsE n = 0) (z2 : rdsE r = 0) (z3 : mvsE l = 0) : FSpec Tryz.prog 16 [.d (neds n), .d (roas r), .d (movs l)] [] (fun y q => y = .d (.int .i64 (planE n r l)) ∧ q = []) := by
 have hnl := (nds_all z1).1
 have hml := (mvs_all z3).1
 have hrl := (rds_all z2).1
 rw [planE_eq z1]
 refine spec_of hT (C := []) Tryz.func16 rfl Tryz.call16 rfl rfl rfl ?_
 conv => whnf
 repeat' (first | (refine br_intro ?_ ?_ <;> intro hb <;> (try simp only [brs] at hb) <;> conv => whnf) | (refine RegX.rule (id := 17) hT rfl [] oVPiC16_17 (by decide +kernel) ?_; conv => whnf) | (refine RegX.rule (id := 18) hT rfl [] oVPiC16_18 (by decide +kernel) ?_; conv => whnf) | omega | (refine And.intro ?_ ?_; ((try dsimp only); first | omega | (refine szA rfl ?_; omega) | (refine szB rfl ?_; omega) | (unfold inI64; omega) | exact rfl | (simp only [lns] at *; omega) | decide | (unfold inI64; decide)); conv => whnf) | decide | assumption)
 refine LoopX.rule hT (C := []) (ι := Nat) (fun i => i ≤ l.length ∧ ∀ j, j < i → onPlan n r l j = 0) (fun i => mkSt [(0, .d (neds n)), (1, .d (roas r)), (2, .d (movs l)), (17, .d (movs l)), (18, .d (.int .i64 l.length)), (19, .d (.int .i64 i))] []) (fun i => l.length - i) 0 ⟨Nat.zero_le _, fun j hj => absurd hj (Nat.not_lt_zero _)⟩ ?_ ?_
 · exact Entails.mk' [] rfl rfl ⟨lr, lr, lr, lr, lr, lr, trivial⟩ trivial
 rintro i ⟨hi, ha⟩
 have hi : i ≤ l.length := hi
 have ha : ∀ j, j < i → onPlan n r l j = 0 := ha
 have e1 : (i : Int).toNat = i := Int.toNat_natCast i
 rcases Nat.lt_or_ge i l.length with hil | hil
 · have h50a := p50 n (l.getD (i : Int).toNat mv0).a (by omega)
   have h50b := p50 n (l.getD (i : Int).toNat mv0).b (by omega)
   have h113 := z113 r (by omega) (l.getD (i : Int).toNat mv0).a (l.getD (i : Int).toNat mv0).b
   have hbad : ∀ e : Int, e ≠ 0 → onPlan n r l i = e → (if firstAt (onPlan n r l) l.length ≠ 0 then firstAt (onPlan n r l) l.length else firstAt (sumE2 n l) n.length) = e := fun e q1 q2 => by
    have := firstAt_eq hil ha q1 q2
    rw [this, if_pos q1]
   conv => whnf
   repeat' (first | (refine CallX.exact (h50a) rfl rfl ?_; rotate_right; conv => whnf) | (refine CallX.exact (h50b) rfl rfl ?_; rotate_right; conv => whnf) | (refine CallX.exact (h113) rfl rfl ?_; rotate_right; conv => whnf) | (refine br_intro ?_ ?_ <;> intro hb <;> (try simp only [brs] at hb) <;> conv => whnf) | (refine RegX.rule (id := 17) hT rfl [] oVPiC16_17 (by decide +kernel) ?_; conv => whnf) | (refine RegX.rule (id := 18) hT rfl [] oVPiC16_18 (by decide +kernel) ?_; conv => whnf) | omega | (refine And.intro ?_ ?_; ((try dsimp only); first | omega | (refine szA rfl ?_; omega) | (refine szB rfl ?_; omega) | (unfold inI64; omega) | exact rfl | (simp only [lns] at *; omega) | decide | (unfold inI64; decide)); conv => whnf) | decide | assumption)
   all_goals try (exfalso; omega)
   · refine .ret _ ?_
     conv => whnf
     refine ⟨[], ⟨?_, rfl⟩, trivial⟩
     conv => lhs; whnf
     rw [hbad 16 (by decide) (by unfold onPlan; simp only; rw [if_pos (.inl hb)])]
   · refine .ret _ ?_
     conv => whnf
     refine ⟨[], ⟨?_, rfl⟩, trivial⟩
     conv => lhs; whnf
     rw [hbad 16 (by decide) (by unfold onPlan; simp only; rw [if_pos (.inr hb)])]
   · refine .ret _ ?_
     conv => whnf
     refine ⟨[], ⟨?_, rfl⟩, trivial⟩
     conv => lhs; whnf
     rw [hbad 8 (by decide) (by unfold onPlan; simp only; rw [if_neg (by omega), if_pos hb])]
   · rename_i q1 q2
     refine ⟨i + 1, ⟨hil, first_step ha ?_⟩, by show l.length - (i + 1) < l.length - i; omega, Entails.mk' [] rfl rfl ⟨lr, lr, lr, lr, lr, lr, trivial⟩ trivial⟩
     unfold onPlan
     simp only
     rw [if_neg (by omega), if_neg (by rw [hb]; decide)]
 · have hil : i = l.length := by omega
   subst hil
   have hz : firstAt (onPlan n r l) l.length = 0 := firstAt_zero ha
   have hpl : (if firstAt (onPlan n r l) l.length ≠ 0 then firstAt (onPlan n r l) l.length else firstAt (sumE2 n l) n.length) = firstAt (sumE2 n l) n.length := by rw [hz, if_neg (fun q => q rfl)]
   rw [hpl]
   conv => whnf
   repeat' (first | (refine br_intro ?_ ?_ <;> intro hb <;> (try simp only [brs] at hb) <;> conv => whnf) | (refine RegX.rule (id := 17) hT rfl [] oVPiC16_17 (by decide +kernel) ?_; conv => whnf) | (refine RegX.rule (id := 18) hT rfl [] oVPiC16_18 (by decide +kernel) ?_; conv => whnf) | omega | (refine And.intro ?_ ?_; ((try dsimp only); first | omega | (refine szA rfl ?_; omega) | (refine szB rfl ?_; omega) | (unfold inI64; omega) | exact rfl | (simp only [lns] at *; omega) | decide | (unfold inI64; decide)); conv => whnf) | decide | assumption)
   all_goals try (exfalso; omega)
   refine LoopX.rule hT (C := []) (ι := Nat) (fun i => i ≤ n.length ∧ ∀ j, j < i → sumE2 n l j = 0) (fun i => mkSt [(2, .d (movs l)), (47, .d (neds n)), (48, .d (.int .i64 n.length)), (49, .d (.int .i64 i))] []) (fun i => n.length - i) 0 ⟨Nat.zero_le _, fun j hj => absurd hj (Nat.not_lt_zero _)⟩ ?_ ?_
   · exact Entails.mk' [] rfl rfl ⟨lr, lr, lr, lr, trivial⟩ trivial
   rintro i ⟨hi, ha⟩
   have hi : i ≤ n.length := hi
   have ha : ∀ j, j < i → sumE2 n l j = 0 := ha
   have e1 : (i : Int).toNat = i := Int.toNat_natCast i
   rcases Nat.lt_or_ge i n.length with hin | hin
   · have hmi := ned_many z1 i
     unfold manyP at hmi
     rw [← e1] at hmi
     have hbad : ∀ e : Int, e ≠ 0 → sumE2 n l i = e → firstAt (sumE2 n l) n.length = e := fun e q1 q2 => firstAt_eq hin ha q1 q2
     conv => whnf
     repeat' (first | (refine br_intro ?_ ?_ <;> intro hb <;> (try simp only [brs] at hb) <;> conv => whnf) | (refine RegX.rule (id := 17) hT rfl [] oVPiC16_17 (by decide +kernel) ?_; conv => whnf) | (refine RegX.rule (id := 18) hT rfl [] oVPiC16_18 (by decide +kernel) ?_; conv => whnf) | omega | (refine And.intro ?_ ?_; ((try dsimp only); first | omega | (refine szA rfl ?_; omega) | (refine szB rfl ?_; omega) | (unfold inI64; omega) | exact rfl | (simp only [lns] at *; omega) | decide | (unfold inI64; decide)); conv => whnf) | decide | assumption)
     all_goals try (exfalso; omega)
     refine LoopX.rule hT (C := []) (ι := Nat) (fun k => k ≤ l.length) (fun k => mkSt [(2, .d (movs l)), (12, .ptr 12 0), (13, .d (.int .i64 (awayN l (n.getD i nd0).st k))), (14, .d (.int .i64 (hereN l (n.getD i nd0).st k))), (47, .d (neds n)), (48, .d (.int .i64 n.length)), (49, .d (.int .i64 i)), (53, .d (movs l)), (54, .d (.int .i64 l.length)), (55, .d (.int .i64 k))] [(12, .cells 58 ((ndF (n.getD (i : Int).toNat nd0)).map .d))]) (fun k => l.length - k) 0 (Nat.zero_le _) ?_ ?_
     · exact Entails.mk' [(12, 12)] rfl rfl ⟨lr, lr, lr, lr, lr, lr, lr, lr, lr, lr, trivial⟩ ⟨rr, trivial⟩
     rintro k hk
     have hk : k ≤ l.length := hk
     have e2 : (k : Int).toNat = k := Int.toNat_natCast k
     have hw1 := awayN_bd z3 (n.getD i nd0).st k hk
     have hw2 := hereN_bd z3 (n.getD i nd0).st k hk
     rcases Nat.lt_or_ge k l.length with hkl | hkl
     · have hbd := mov_bd z3 hkl
       rw [← e2] at hbd
       have f1 := s112c (decide ((l.getD (k : Int).toNat mv0).a = (n.getD (i : Int).toNat nd0).st))
       have f2 := s112c (decide ((l.getD (k : Int).toNat mv0).b = (n.getD (i : Int).toNat nd0).st))
       conv => whnf
       repeat' (first | (refine CallX.of (s112c _) [] rfl ⟨lr, trivial⟩ trivial rfl rfl ?_; rintro x rout ⟨hx, rfl⟩; (rcases hx with ⟨hq, rfl⟩ | ⟨hq, rfl⟩) <;> (refine ⟨rfl, ?_⟩ <;> (conv => whnf)); conv => whnf) | (refine br_intro ?_ ?_ <;> intro hb <;> (try simp only [brs] at hb) <;> conv => whnf) | (refine RegX.rule (id := 17) hT rfl [] oVPiC16_17 (by decide +kernel) ?_; conv => whnf) | (refine RegX.rule (id := 18) hT rfl [] oVPiC16_18 (by decide +kernel) ?_; conv => whnf) | omega | (refine And.intro ?_ ?_; ((try dsimp only); first | omega | (refine szA rfl ?_; omega) | (refine szB rfl ?_; omega) | (unfold inI64; omega) | exact rfl | (simp only [lns] at *; omega) | decide | (unfold inI64; decide)); conv => whnf) | decide | assumption)
       all_goals try (exfalso; omega)
       all_goals
        rename_i hq1
        refine ⟨k + 1, hkl, by show l.length - (k + 1) < l.length - k; omega, Entails.mk' [(12, 12)] rfl rfl ⟨lr, lr, SV.le_int ?_, SV.le_int ?_, lr, lr, lr, lr, lr, lr, trivial⟩ ⟨rr, trivial⟩⟩
       all_goals first
        | (rw [e2, awayN]
           first
            | (rw [if_pos (by simpa only [beq_iff_eq, e1, e2] using hq1)]; omega)
            | (rw [if_neg (by simpa only [beq_eq_false_iff_ne, ne_eq, e1, e2] using hq1)]; omega))
        | (rw [e2, hereN]
           first
            | (rw [if_pos (by simpa only [beq_iff_eq, e1, e2] using hq)]; omega)
            | (rw [if_neg (by simpa only [beq_eq_false_iff_ne, ne_eq, e1, e2] using hq)]; omega))
     · have hkl : k = l.length := by omega
       subst hkl
       conv => whnf
       repeat' (first | (refine br_intro ?_ ?_ <;> intro hb <;> (try simp only [brs] at hb) <;> conv => whnf) | (refine RegX.rule (id := 17) hT rfl [] oVPiC16_17 (by decide +kernel) ?_; conv => whnf) | (refine RegX.rule (id := 18) hT rfl [] oVPiC16_18 (by decide +kernel) ?_; conv => whnf) | omega | (refine And.intro ?_ ?_; ((try dsimp only); first | omega | (refine szA rfl ?_; omega) | (refine szB rfl ?_; omega) | (unfold inI64; omega) | exact rfl | (simp only [lns] at *; omega) | decide | (unfold inI64; decide)); conv => whnf) | decide | assumption)
       all_goals try (exfalso; omega)
       · rename_i q1
         refine .ret _ ?_
         conv => whnf
         refine ⟨[], ⟨?_, rfl⟩, trivial⟩
         conv => lhs; whnf
         rw [hbad 15 (by decide) (by unfold sumE2; simp only; rw [if_pos (.inl ⟨q1, hb⟩)])]
       · exact ⟨i + 1, ⟨hin, first_step ha (by unfold sumE2; simp only; rw [if_neg (by omega)])⟩, by show n.length - (i + 1) < n.length - i; omega, Entails.mk' [] rfl rfl ⟨lr, lr, lr, lr, trivial⟩ trivial⟩
       · refine .ret _ ?_
         conv => whnf
         refine ⟨[], ⟨?_, rfl⟩, trivial⟩
         conv => lhs; whnf
         rw [hbad 15 (by decide) (by unfold sumE2; simp only; rw [if_pos (.inr ⟨by omega, by omega⟩)])]
       · exact ⟨i + 1, ⟨hin, first_step ha (by unfold sumE2; simp only; rw [if_neg (by omega)])⟩, by show n.length - (i + 1) < n.length - i; omega, Entails.mk' [] rfl rfl ⟨lr, lr, lr, lr, trivial⟩ trivial⟩
       · exact ⟨i + 1, ⟨hin, first_step ha (by unfold sumE2; simp only; rw [if_neg (by omega)])⟩, by show n.length - (i + 1) < n.length - i; omega, Entails.mk' [] rfl rfl ⟨lr, lr, lr, lr, trivial⟩ trivial⟩
   · have hin : i = n.length := by omega
     subst hin
     conv => whnf
     repeat' (first | (refine br_intro ?_ ?_ <;> intro hb <;> (try simp only [brs] at hb) <;> conv => whnf) | (refine RegX.rule (id := 17) hT rfl [] oVPiC16_17 (by decide +kernel) ?_; conv => whnf) | (refine RegX.rule (id := 18) hT rfl [] oVPiC16_18 (by decide +kernel) ?_; conv => whnf) | omega | (refine And.intro ?_ ?_; ((try dsimp only); first | omega | (refine szA rfl ?_; omega) | (refine szB rfl ?_; omega) | (unfold inI64; omega) | exact rfl | (simp only [lns] at *; omega) | decide | (unfold inI64; decide)); conv => whnf) | decide | assumption)
     all_goals try (exfalso; omega)
     refine .ret _ ?_
     conv => whnf
     refine ⟨[], ⟨?_, rfl⟩, trivial⟩
     conv => lhs; whnf
     rw [firstAt_zero ha]
set_option maxHeartbeats 4000000 in
theorem p43 (r : List Roa) (l : List Mov) (hr : rdsE r = 0) (hl : mvP l) : FSpec Tryz.prog 43 [.d (roas r), .d (movs l)] [] (fun y q => y = .d (.int .i64 (costN r l l.length)) ∧ q = []) := by
 have hrl := (rds_all hr).1
 have hll := hl.1
 refine spec_of hT (C := []) Tryz.func43 rfl Tryz.call43 rfl rfl rfl ?_
 conv => whnf
 repeat' (first | (refine CallX.of (z117 r hr) [(3, 10)] rfl ⟨lr, trivial⟩ trivial rfl rfl ?_; rintro x rout ⟨rfl, rfl⟩; refine ⟨rfl, ?_⟩; conv => whnf) | (refine br_intro ?_ ?_ <;> intro hb <;> (try simp only [brs] at hb) <;> conv => whnf) | (refine RegX.rule (id := 6) hT rfl [] oVPiC43_6 (by decide +kernel) ?_; conv => whnf) | omega | (refine And.intro ?_ ?_; ((try dsimp only); first | omega | (refine szA rfl ?_; omega) | (refine szB rfl ?_; omega) | (unfold inI64; omega) | exact rfl | (simp only [lns] at *; omega) | decide | (unfold inI64; decide)); conv => whnf) | decide | assumption)
 refine LoopX.rule hT (C := []) (ι := Nat) (fun i => i ≤ l.length) (fun i => mkSt [(5, .mp 10), (6, .d (.int .i64 (costN r l i))), (11, .d (movs l)), (12, .d (.int .i64 l.length)), (13, .d (.int .i64 i))] [(10, netG r)]) (fun i => l.length - i) 0 (Nat.zero_le _) ?_ ?_
 · exact Entails.mk' [(10, 10)] rfl rfl ⟨lr, lr, lr, lr, lr, trivial⟩ ⟨rr, trivial⟩
 rintro i hi
 have hi : i ≤ l.length := hi
 have e1 : (i : Int).toNat = i := Int.toNat_natCast i
 have hb1 := costN_b2 hr hl i hi
 rcases Nat.lt_or_ge i l.length with hil | hil
 · have h2 := hl.2 _ (getD_mem (l := l) (x := mv0) (i := (i : Int).toNat) (by omega))
   have h3 := roadC_bd hr (l.getD (i : Int).toNat mv0).a (l.getD (i : Int).toNat mv0).b
   have h4 := mul_nb h2 h3
   conv => whnf
   repeat' (first | (refine And.intro (rfl : zrow _ = some [.str [], .str [], .int .i64 0, .int .i64 0]) ?_; conv => whnf) | (refine And.intro (show inI64 ((l.getD (i : Int).toNat mv0).many * ((roadO r (l.getD (i : Int).toNat mv0).a (l.getD (i : Int).toNat mv0).b).getD rd0).car) by unfold inI64; omega) ?_; conv => whnf) | (refine And.intro (show inI64 (costN r l i + (l.getD (i : Int).toNat mv0).many * ((roadO r (l.getD (i : Int).toNat mv0).a (l.getD (i : Int).toNat mv0).b).getD rd0).car) by unfold inI64; omega) ?_; conv => whnf) | (refine br_intro ?_ ?_ <;> intro hb <;> (try simp only [brs] at hb) <;> conv => whnf) | (refine RegX.rule (id := 6) hT rfl [] oVPiC43_6 (by decide +kernel) ?_; conv => whnf) | omega | (refine And.intro ?_ ?_; ((try dsimp only); first | omega | (refine szA rfl ?_; omega) | (refine szB rfl ?_; omega) | (unfold inI64; omega) | exact rfl | (simp only [lns] at *; omega) | decide | (unfold inI64; decide)); conv => whnf) | decide | assumption)
   all_goals try (exfalso; omega)
   exact ⟨i + 1, hil, by show l.length - (i + 1) < l.length - i; omega, Entails.mk' [(10, 10)] rfl rfl ⟨lr, lr, lr, lr, lr, trivial⟩ ⟨rr, trivial⟩⟩
 · have hil : i = l.length := by omega
   subst hil
   conv => whnf
   repeat' (first | (refine br_intro ?_ ?_ <;> intro hb <;> (try simp only [brs] at hb) <;> conv => whnf) | (refine RegX.rule (id := 6) hT rfl [] oVPiC43_6 (by decide +kernel) ?_; conv => whnf) | omega | (refine And.intro ?_ ?_; ((try dsimp only); first | omega | (refine szA rfl ?_; omega) | (refine szB rfl ?_; omega) | (unfold inI64; omega) | exact rfl | (simp only [lns] at *; omega) | decide | (unfold inI64; decide)); conv => whnf) | decide | assumption)
   all_goals try (exfalso; omega)
   refine .ret _ ?_
   conv => whnf
   refine ⟨[], ⟨?_, rfl⟩, trivial⟩
   conv => lhs; whnf
theorem plnE_zero {n : List Ned} {r : List Roa} {l : List Mov} (h : plnE n r l = 0) : (ndsE n = 0 ∧ rdsE r = 0 ∧ mvsE l = 0) ∧ planE n r l = 0 := by
 unfold plnE at h
 split at h
 · rename_i q; exact absurd h q
 · rename_i q; exact ⟨firstE_tri (Classical.not_not.1 q), h⟩
theorem p9 (n : List Ned) (r : List Roa) (l : List Mov) (hn : ndOk n) (hr : rdOk r) (hl : mvOk l) : FSpec Tryz.prog 9 [.d (neds n), .d (roas r), .d (movs l)] [] (fun y q => y = .tup [.d (.int .i64 (if plnE n r l = 0 then costN r l l.length else 0)), .d (.int .i64 (plnE n r l))] ∧ q = []) := by
 have h18 := p18 n r l hn hr hl
 obtain ⟨e, he⟩ : ∃ e, plnE n r l = e := ⟨_, rfl⟩
 rw [he] at h18
 rw [he]
 by_cases h0 : e = 0
 · subst h0
   obtain ⟨⟨z1, z2, z3⟩, z4⟩ := plnE_zero he
   have h43 := p43 r l z2 (mvsE_ok z3)
   refine spec_of hT (C := []) Tryz.func9 rfl Tryz.call9 rfl rfl rfl ?_
   conv => whnf
   repeat' (first | (refine CallX.exact (h18) rfl rfl ?_; rotate_right; conv => whnf) | (refine CallX.exact (h43) rfl rfl ?_; rotate_right; conv => whnf) | (refine br_intro ?_ ?_ <;> intro hb <;> (try simp only [brs] at hb) <;> conv => whnf) | omega | (refine And.intro ?_ ?_; ((try dsimp only); first | omega | (refine szA rfl ?_; omega) | (refine szB rfl ?_; omega) | (unfold inI64; omega) | exact rfl | (simp only [lns] at *; omega) | decide | (unfold inI64; decide)); conv => whnf) | decide | assumption)
   refine .weak _ ?_
   conv => whnf
   exact ⟨.tup [.d (.int .i64 (if 0 = (0 : Int) then costN r l l.length else 0)), .d (.int .i64 0)], _, SV.le_tup ⟨SV.le_int (if_pos rfl).symm, lr, trivial⟩, ⟨rfl, rfl⟩, trivial⟩
 · refine spec_of hT (C := []) Tryz.func9 rfl Tryz.call9 rfl rfl rfl ?_
   conv => whnf
   repeat' (first | (refine CallX.exact (h18) rfl rfl ?_; rotate_right; conv => whnf) | (refine br_intro ?_ ?_ <;> intro hb <;> (try simp only [brs] at hb) <;> conv => whnf) | omega | (refine And.intro ?_ ?_; ((try dsimp only); first | omega | (refine szA rfl ?_; omega) | (refine szB rfl ?_; omega) | (unfold inI64; omega) | exact rfl | (simp only [lns] at *; omega) | decide | (unfold inI64; decide)); conv => whnf) | decide | assumption)
   all_goals try (exfalso; omega)
   refine .weak _ ?_
   conv => whnf
   exact ⟨.tup [.d (.int .i64 (if e = (0 : Int) then costN r l l.length else 0)), .d (.int .i64 e)], _, SV.le_tup ⟨SV.le_int (if_neg h0).symm, lr, trivial⟩, ⟨rfl, rfl⟩, trivial⟩
theorem ndOk_of {l : List Ned} (h : allK ndS 5 l) : ndOk l := ⟨by have := h.1; omega, fun x hx => by have h1 : x.st.length ≤ 8 := h.2 x hx; show x.st.length ≤ 2^40; omega⟩
theorem rdOk_of {l : List Roa} (h : allK rdS 25 l) : rdOk l := ⟨by have := h.1; omega, fun x hx => by have h1 := h.2 x hx; exact ⟨by have := h1.1; omega, by have := h1.2; omega⟩⟩
theorem mvOk_of {l : List Mov} (h : allK mvG 100 l) : mvOk l := ⟨by have := h.1; omega, fun x hx => by have h1 := h.2 x hx; exact ⟨by have := h1.1; omega, by have := h1.2; omega⟩⟩
theorem plnE_ne {n : List Ned} {r : List Roa} {l : List Mov} {e : Int} (h : firstE [ndsE n, rdsE r, mvsE l] = e) (h0 : e ≠ 0) : plnE n r l = e := by
 unfold plnE; rw [h, if_pos h0]
theorem plnE_eq {n : List Ned} {r : List Roa} {l : List Mov} (h : firstE [ndsE n, rdsE r, mvsE l] = 0) : plnE n r l = planE n r l := by
 unfold plnE; rw [h, if_neg (fun q => q rfl)]
set_option maxHeartbeats 4000000 in
theorem z3 (n : Nat) (L : Nat → Int) (hn : n ≤ maxLen) (hl : ∀ i, -2^63 ≤ L i ∧ L i < 2^63) : FSpec Tryz.prog 3 [.d (.ro 1 n fun i => [.int .i64 (L i)])] [] (fun x r => x = .d (.bool true) ∧ r = []) := by
 have hL : Rok n L := ⟨hn, hl⟩
 refine spec_of hT (C := []) Tryz.func3 rfl Tryz.call3 rfl rfl rfl ?_
 conv => whnf
 repeat' (first | (refine CallX.of (sNds n L hL _ ?_ ?_ ) [(1000000, 15)] rfl ⟨lr, trivial⟩ ⟨rr, trivial⟩ rfl rfl ?_; rotate_right; rintro x rout ⟨⟨N, hN, rfl⟩, ⟨c, c1, c2, rfl⟩⟩; refine ⟨rfl, ?_⟩; conv => whnf) | (refine CallX.of (sRds n L hL _ ?_ ?_ ) [(1000000, 15)] rfl ⟨lr, trivial⟩ ⟨rr, trivial⟩ rfl rfl ?_; rotate_right; rintro x rout ⟨⟨R, hR, rfl⟩, ⟨c, c1, c2, rfl⟩⟩; refine ⟨rfl, ?_⟩; conv => whnf) | (refine CallX.of (sMvs n L hL _ ?_ ?_ N R hN hR) [(1000000, 15)] rfl ⟨lr, lr, lr, trivial⟩ ⟨rr, trivial⟩ rfl rfl ?_; rotate_right; rintro x rout ⟨⟨l, hl, rfl⟩, ⟨c, c1, c2, rfl⟩⟩; refine ⟨rfl, ?_⟩; conv => whnf) | (refine br_intro ?_ ?_ <;> intro hb <;> (try simp only [brs] at hb) <;> conv => whnf) | omega | (refine And.intro ?_ ?_; ((try dsimp only); first | omega | (refine szA rfl ?_; omega) | (refine szB rfl ?_; omega) | (unfold inI64; omega) | exact rfl | (simp only [lns] at *; omega) | decide | (unfold inI64; decide)); conv => whnf) | decide | assumption)
 have hnd := ndOk_of hN
 have hrd := rdOk_of hR
 have hmv := mvOk_of hl
 have h20 := z20 N hnd
 have h21 := z21 R hrd
 have h25 := z25 l hmv
 have h12 := s163 N hnd
 have h13 := s164 R hrd
 have h9 := p9 N R l hnd hrd hmv
 have h18 := p18 N R l hnd hrd hmv
 obtain ⟨E, hE⟩ : ∃ e, firstE [ndsE N, rdsE R, mvsE l] = e := ⟨_, rfl⟩
 have h17 := s17 [ndsE N, rdsE R, mvsE l] (by simp)
 rw [hE] at h17
 by_cases h0 : E = 0
 · subst h0
   obtain ⟨k1, k2, k3⟩ := firstE_tri hE
   have h16 := p16 N R l k1 k2 k3
   rw [plnE_eq hE] at h9 h18
   have hC := p17 R l k2 (mvsE_ok k3)
   obtain ⟨pe, hpe⟩ : ∃ e, planE N R l = e := ⟨_, rfl⟩
   obtain ⟨co, hco⟩ : ∃ e, costN R l l.length = e := ⟨_, rfl⟩
   rw [hpe] at h9 h18 h16
   rw [hco] at h9 hC
   by_cases hp : pe = 0
   · subst hp
     rw [if_pos rfl] at h9
     repeat' (first | (refine CallX.exact (h9) rfl rfl ?_; rotate_right; conv => whnf) | (refine CallX.exact (h20) rfl rfl ?_; rotate_right; conv => whnf) | (refine CallX.exact (h21) rfl rfl ?_; rotate_right; conv => whnf) | (refine CallX.exact (h12) rfl rfl ?_; rotate_right; conv => whnf) | (refine CallX.exact (h13) rfl rfl ?_; rotate_right; conv => whnf) | (refine CallX.exact (h25) rfl rfl ?_; rotate_right; conv => whnf) | (refine CallX.pure h17 ⟨SV.le_lit (by rfl) (by rfl), trivial⟩ rfl ?_; conv => whnf) | (refine CallX.exact (h16) rfl rfl ?_; rotate_right; conv => whnf) | (refine CallX.exact (hC) rfl rfl ?_; rotate_right; conv => whnf) | (refine CallX.exact (h18) rfl rfl ?_; rotate_right; conv => whnf) | (refine CallX.exact (p19) rfl rfl ?_; rotate_right; conv => whnf) | (refine br_intro ?_ ?_ <;> intro hb <;> (try simp only [brs] at hb) <;> conv => whnf) | omega | (refine And.intro ?_ ?_; ((try dsimp only); first | omega | (refine szA rfl ?_; omega) | (refine szB rfl ?_; omega) | (unfold inI64; omega) | exact rfl | (simp only [lns] at *; omega) | decide | (unfold inI64; decide)); conv => whnf) | decide | assumption)
     all_goals try (exfalso; omega)
     refine .ret _ ?_
     conv => whnf
     refine ⟨[], ⟨?_, rfl⟩, trivial⟩
     conv => lhs; whnf
   · rw [if_neg hp] at h9
     repeat' (first | (refine CallX.exact (h9) rfl rfl ?_; rotate_right; conv => whnf) | (refine CallX.exact (h20) rfl rfl ?_; rotate_right; conv => whnf) | (refine CallX.exact (h21) rfl rfl ?_; rotate_right; conv => whnf) | (refine CallX.exact (h12) rfl rfl ?_; rotate_right; conv => whnf) | (refine CallX.exact (h13) rfl rfl ?_; rotate_right; conv => whnf) | (refine CallX.exact (h25) rfl rfl ?_; rotate_right; conv => whnf) | (refine CallX.pure h17 ⟨SV.le_lit (by rfl) (by rfl), trivial⟩ rfl ?_; conv => whnf) | (refine CallX.exact (h16) rfl rfl ?_; rotate_right; conv => whnf) | (refine CallX.exact (hC) rfl rfl ?_; rotate_right; conv => whnf) | (refine CallX.exact (h18) rfl rfl ?_; rotate_right; conv => whnf) | (refine CallX.exact (p19) rfl rfl ?_; rotate_right; conv => whnf) | (refine br_intro ?_ ?_ <;> intro hb <;> (try simp only [brs] at hb) <;> conv => whnf) | omega | (refine And.intro ?_ ?_; ((try dsimp only); first | omega | (refine szA rfl ?_; omega) | (refine szB rfl ?_; omega) | (unfold inI64; omega) | exact rfl | (simp only [lns] at *; omega) | decide | (unfold inI64; decide)); conv => whnf) | decide | assumption)
     all_goals try (exfalso; omega)
     refine .ret _ ?_
     conv => whnf
     refine ⟨[], ⟨?_, rfl⟩, trivial⟩
     conv => lhs; whnf
 · rw [plnE_ne hE h0] at h9 h18
   rw [if_neg h0] at h9
   repeat' (first | (refine CallX.exact (h9) rfl rfl ?_; rotate_right; conv => whnf) | (refine CallX.exact (h20) rfl rfl ?_; rotate_right; conv => whnf) | (refine CallX.exact (h21) rfl rfl ?_; rotate_right; conv => whnf) | (refine CallX.exact (h12) rfl rfl ?_; rotate_right; conv => whnf) | (refine CallX.exact (h13) rfl rfl ?_; rotate_right; conv => whnf) | (refine CallX.exact (h25) rfl rfl ?_; rotate_right; conv => whnf) | (refine CallX.pure h17 ⟨SV.le_lit (by rfl) (by rfl), trivial⟩ rfl ?_; conv => whnf) | (refine CallX.exact (h18) rfl rfl ?_; rotate_right; conv => whnf) | (refine CallX.exact (p19) rfl rfl ?_; rotate_right; conv => whnf) | (refine br_intro ?_ ?_ <;> intro hb <;> (try simp only [brs] at hb) <;> conv => whnf) | omega | (refine And.intro ?_ ?_; ((try dsimp only); first | omega | (refine szA rfl ?_; omega) | (refine szB rfl ?_; omega) | (unfold inI64; omega) | exact rfl | (simp only [lns] at *; omega) | decide | (unfold inI64; decide)); conv => whnf) | decide | assumption)
   all_goals try (exfalso; omega)
   refine .ret _ ?_
   conv => whnf
   refine ⟨[], ⟨?_, rfl⟩, trivial⟩
   conv => lhs; whnf
end Go.Proofs.YteehenjdddlnnaaGreatDoor
