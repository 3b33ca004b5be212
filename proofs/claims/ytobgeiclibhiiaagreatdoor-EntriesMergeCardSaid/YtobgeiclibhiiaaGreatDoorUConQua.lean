/- EntriesMerge is proved: for every input the law returns true, and its argument reads afterwards as it read before. Conditions: those of the given row alone. -/
import Derived.Test.YtobgeiclibhiiaaGreatDoorUConTri
import Derived.Test.YtobgeiclibhiiaaGreatDoorUConTwo
set_option linter.unusedVariables false
set_option linter.unusedSimpArgs false
set_option maxRecDepth 20000
namespace Go.Proofs.YtobgeiclibhiiaaGreatDoor
open Go Go.Eng
def dea (d : Dea) : SV := .agg ((deaF d).map .d)
set_option maxHeartbeats 4000000 in
theorem yDeal (n : Nat) (L : Nat → Int) (hL : Rok n L) (a : Int) (h0 : 0 ≤ a) (ha : a ≤ 2^37) :
 FSpec Tryz.prog 25 [.ptr 1000000 0] [(1000000, strm n L a)] (fun y r => (∃ d : Dea, y = dea d) ∧ Moved n L a 20 r) := by
 refine spec_of hT (C := []) Tryz.func25 rfl Tryz.call25 rfl rfl rfl ?_
 conv => whnf
 repeat' (first | (refine CallX.of (s33 n L hL _ ?_ ?_ [0, 100, 200, 10000] ?_ ?_) [(1000000, 1000000)] rfl ⟨lr, SV.le_lit rfl rfl, trivial⟩ ⟨rr, trivial⟩ rfl rfl ?_; rotate_right; rintro x rout ⟨⟨u1, hu1, rfl⟩, ⟨c, c1, c2, rfl⟩⟩; refine ⟨rfl, ?_⟩; conv => whnf) | (refine CallX.of (s33 n L hL _ ?_ ?_ [0, 2, 30] ?_ ?_) [(1000000, 1000000)] rfl ⟨lr, SV.le_lit rfl rfl, trivial⟩ ⟨rr, trivial⟩ rfl rfl ?_; rotate_right; rintro x rout ⟨⟨u2, hu2, rfl⟩, ⟨c, c1, c2, rfl⟩⟩; refine ⟨rfl, ?_⟩; conv => whnf) | (refine CallX.of (s33 n L hL _ ?_ ?_ [0, 300, 1000] ?_ ?_) [(1000000, 1000000)] rfl ⟨lr, SV.le_lit rfl rfl, trivial⟩ ⟨rr, trivial⟩ rfl rfl ?_; rotate_right; rintro x rout ⟨⟨u3, hu3, rfl⟩, ⟨c, c1, c2, rfl⟩⟩; refine ⟨rfl, ?_⟩; conv => whnf) | (refine CallX.of (s33 n L hL _ ?_ ?_ [0, 29, 30, 59, 60] ?_ ?_) [(1000000, 1000000)] rfl ⟨lr, SV.le_lit rfl rfl, trivial⟩ ⟨rr, trivial⟩ rfl rfl ?_; rotate_right; rintro x rout ⟨⟨u4, hu4, rfl⟩, ⟨c, c1, c2, rfl⟩⟩; refine ⟨rfl, ?_⟩; conv => whnf) | (refine CallX.of (s33 n L hL _ ?_ ?_ [0, 500, 1000, 2000] ?_ ?_) [(1000000, 1000000)] rfl ⟨lr, SV.le_lit rfl rfl, trivial⟩ ⟨rr, trivial⟩ rfl rfl ?_; rotate_right; rintro x rout ⟨⟨u5, hu5, rfl⟩, ⟨c, c1, c2, rfl⟩⟩; refine ⟨rfl, ?_⟩; conv => whnf) | (refine CallX.of (s33 n L hL _ ?_ ?_ [0, 4000, 5000, 9000] ?_ ?_) [(1000000, 1000000)] rfl ⟨lr, SV.le_lit rfl rfl, trivial⟩ ⟨rr, trivial⟩ rfl rfl ?_; rotate_right; rintro x rout ⟨⟨u6, hu6, rfl⟩, ⟨c, c1, c2, rfl⟩⟩; refine ⟨rfl, ?_⟩; conv => whnf) | (refine CallX.of (s33 n L hL _ ?_ ?_ [0, 10000, 1000000] ?_ ?_) [(1000000, 1000000)] rfl ⟨lr, SV.le_lit rfl rfl, trivial⟩ ⟨rr, trivial⟩ rfl rfl ?_; rotate_right; rintro x rout ⟨⟨u7, hu7, rfl⟩, ⟨c, c1, c2, rfl⟩⟩; refine ⟨rfl, ?_⟩; conv => whnf) | (refine CallX.of (s84 n L hL _ ?_ ?_ 15 ?_) [(1000000, 1000000)] rfl ⟨lr, lr, trivial⟩ ⟨rr, trivial⟩ rfl rfl ?_; rotate_right; rintro x rout ⟨⟨w, rfl⟩, ⟨c, c1, c2, rfl⟩⟩; refine ⟨rfl, ?_⟩; conv => whnf) | (refine CallX.of (s104 n L hL _ ?_ ?_ 0 10000 ?_ ?_ ?_) [(1000000, 1000000)] rfl ⟨lr, lr, lr, trivial⟩ ⟨rr, trivial⟩ rfl rfl ?_; rotate_right; rintro x rout ⟨⟨o1, ho1, ho2, rfl⟩, ⟨c, c1, c2, rfl⟩⟩; refine ⟨rfl, ?_⟩; conv => whnf) | (refine CallX.of (s104 n L hL _ ?_ ?_ 0 1440 ?_ ?_ ?_) [(1000000, 1000000)] rfl ⟨lr, lr, lr, trivial⟩ ⟨rr, trivial⟩ rfl rfl ?_; rotate_right; rintro x rout ⟨⟨o2, ho3, ho4, rfl⟩, ⟨c, c1, c2, rfl⟩⟩; refine ⟨rfl, ?_⟩; conv => whnf) | (refine CallX.of (s104 n L hL _ ?_ ?_ 0 1000000 ?_ ?_ ?_) [(1000000, 1000000)] rfl ⟨lr, lr, lr, trivial⟩ ⟨rr, trivial⟩ rfl rfl ?_; rotate_right; rintro x rout ⟨⟨o3, ho5, ho6, rfl⟩, ⟨c, c1, c2, rfl⟩⟩; refine ⟨rfl, ?_⟩; conv => whnf) | (refine CallX.of (s104 n L hL _ ?_ ?_ 0 1000000 ?_ ?_ ?_) [(1000000, 1000000)] rfl ⟨lr, lr, lr, trivial⟩ ⟨rr, trivial⟩ rfl rfl ?_; rotate_right; rintro x rout ⟨⟨o4, ho7, ho8, rfl⟩, ⟨c, c1, c2, rfl⟩⟩; refine ⟨rfl, ?_⟩; conv => whnf) | (refine br_intro ?_ ?_ <;> intro hb <;> (try simp only [brs] at hb) <;> conv => whnf) | omega | (refine And.intro ?_ ?_; ((try dsimp only); first | omega | (refine szA rfl ?_; omega) | (refine szB rfl ?_; omega) | (unfold inI64; omega) | exact rfl | (simp only [List.toList_toArray, List.length_cons, List.length_nil]; omega) | (simp only [lns] at *; omega) | decide | (unfold inI64; decide)); conv => whnf) | decide | assumption)
 all_goals try (exact h0)
 all_goals try omega
 all_goals refine .ret _ ?_
 all_goals conv => whnf
 · exact ⟨[(1000000, strm n L _)], ⟨⟨⟨_, _, _, _, _, _, _⟩, rfl⟩, _, by omega, by omega, rfl⟩, rr, trivial⟩
 · exact ⟨[(1000000, strm n L _)], ⟨⟨⟨_, _, _, _, _, _, _⟩, rfl⟩, _, by omega, by omega, rfl⟩, rr, trivial⟩
def dea0 : Dea := ⟨0, 0, 0, 0, 0, 0, 0⟩
set_option maxHeartbeats 4000000 in
theorem yRDeal (n : Nat) (L : Nat → Int) (hL : Rok n L) (a : Int) (h0 : 0 ≤ a) (ha : a ≤ 2^36) :
 FSpec Tryz.prog 58 [.ptr 1000000 0] [(1000000, strm n L a)] (fun y r => (∃ d : Dea, deaE d = 0 ∧ y = dea d) ∧ Moved n L a 160 r) := by
 refine spec_of hT (C := []) Tryz.func58 rfl Tryz.call58 rfl rfl rfl ?_
 conv => whnf
 refine LoopX.rule hT (C := []) (ι := Int × Nat) (fun (b, i) => a ≤ b ∧ b ≤ a + 20 * i ∧ i ≤ 8)
  (fun (b, i) => mkSt [(0, .ptr 1000000 0), (2, .ptr 2 0), (4, .d (.int .i64 i))] [(1000000, strm n L b), (2, .cells 40 ((deaF dea0).map .d))])
  (fun (_, i) => 8 - i) (a, 0) ⟨by simp, by simp, by simp⟩ (by (refine Entails.mk' [(1000000, 1000000), (2, 2)] rfl rfl ?_ ?_ <;> repeat' (first | exact True.intro | exact lr | exact rr | exact SV.le_int (by omega) | exact SV.le_any _ | refine And.intro ?_ ?_)); done) ?_
 rintro ⟨b, i⟩ ⟨p1, p2, p3⟩
 have p1 : a ≤ b := p1
 have p2 : b ≤ a + 20 * i := p2
 have p3 : i ≤ 8 := p3
 conv => whnf
 repeat' (first | (refine CallX.of (yDeal n L hL _ ?_ ?_) [(1000000, 1000000)] rfl ⟨lr, trivial⟩ ⟨rr, trivial⟩ rfl rfl ?_; rotate_right; rintro x rout ⟨⟨d, rfl⟩, ⟨c, c1, c2, rfl⟩⟩; refine ⟨rfl, ?_⟩; conv => whnf) | (refine CallX.pure (y85 _) ⟨lr, trivial⟩ rfl ?_; conv => whnf) | (refine br_intro ?_ ?_ <;> intro hb <;> (try simp only [brs] at hb) <;> conv => whnf) | omega | (refine And.intro ?_ ?_; ((try dsimp only); first | omega | (refine szA rfl ?_; omega) | (refine szB rfl ?_; omega) | (unfold inI64; omega) | exact rfl | (simp only [List.toList_toArray, List.length_cons, List.length_nil]; omega) | (simp only [lns] at *; omega) | decide | (unfold inI64; decide)); conv => whnf) | decide | assumption)
 all_goals try omega
 · refine .ret _ ?_
   conv => whnf
   exact ⟨[(1000000, strm n L _)], ⟨⟨d, by simpa using hb, rfl⟩, _, by omega, by omega, rfl⟩, rr, trivial⟩
 · exact ⟨(c, i + 1), ⟨by omega, by show _ ≤ a + 20 * ((i + 1 : Nat) : Int); omega, by omega⟩, by show 8 - (i + 1) < 8 - i; omega, (by (refine Entails.mk' [(1000000, 1000000), (2, 2)] rfl rfl ?_ ?_ <;> repeat' (first | exact True.intro | exact lr | exact rr | exact SV.le_int (by omega) | exact SV.le_any _ | refine And.intro ?_ ?_)); done)⟩
 · refine .ret _ ?_
   conv => whnf
   exact ⟨[(1000000, strm n L _)], ⟨⟨dea0, by decide, rfl⟩, _, by omega, by omega, rfl⟩, rr, trivial⟩
structure tarM (t : Tar) : Prop where
 rat : allK ratM 10 t.rat
 ext : allK extM 2 t.ext
 fe : allK feM 5 t.fe
 cod : allK codM 3 t.cod
 tax : allK taxM 3 t.tax
theorem tarM.ok {t : Tar} (h : tarM t) : tarOk t :=
 ⟨⟨Nat.le_trans h.rat.1 (by decide), fun x hx => Nat.le_trans (h.rat.2 x hx) (by decide)⟩, ⟨Nat.le_trans h.ext.1 (by decide), fun x hx => Nat.le_trans (h.ext.2 x hx) (by decide)⟩,
   ⟨Nat.le_trans h.fe.1 (by decide), fun x hx => ⟨Nat.le_trans (h.fe.2 x hx).1 (by decide), Nat.le_trans (h.fe.2 x hx).2 (by decide)⟩⟩,
   ⟨Nat.le_trans h.cod.1 (by decide), fun x hx => ⟨Nat.le_trans (h.cod.2 x hx).1 (by decide), Nat.le_trans (h.cod.2 x hx).2 (by decide)⟩⟩,
   ⟨Nat.le_trans h.tax.1 (by decide), fun x hx => ⟨Nat.le_trans (h.tax.2 x hx).1 (by decide), Nat.le_trans (h.tax.2 x hx).2 (by decide)⟩⟩⟩
def tar (t : Tar) : SV := .agg (tarL t)
set_option maxHeartbeats 4000000 in
theorem yTariff (n : Nat) (L : Nat → Int) (hL : Rok n L) (a : Int) (h0 : 0 ≤ a) (ha : a ≤ 2^34) :
 FSpec Tryz.prog 24 [.ptr 1000000 0] [(1000000, strm n L a)] (fun y r => (∃ t : Tar, tarM t ∧ y = tar t) ∧ Moved n L a 250 r) := by
 refine spec_of hT (C := []) Tryz.func24 rfl Tryz.call24 rfl rfl rfl ?_
 conv => whnf
 repeat' (first | (refine CallX.of (yRates n L hL _ ?_ ?_) [(1000000, 1000000)] rfl ⟨lr, trivial⟩ ⟨rr, trivial⟩ rfl rfl ?_; rotate_right; rintro x rout ⟨⟨t1, ht1, rfl⟩, ⟨c, c1, c2, rfl⟩⟩; refine ⟨rfl, ?_⟩; conv => whnf) | (refine CallX.of (yExtras n L hL _ ?_ ?_) [(1000000, 1000000)] rfl ⟨lr, trivial⟩ ⟨rr, trivial⟩ rfl rfl ?_; rotate_right; rintro x rout ⟨⟨t2, ht2, rfl⟩, ⟨c, c1, c2, rfl⟩⟩; refine ⟨rfl, ?_⟩; conv => whnf) | (refine CallX.of (yFees n L hL _ ?_ ?_) [(1000000, 1000000)] rfl ⟨lr, trivial⟩ ⟨rr, trivial⟩ rfl rfl ?_; rotate_right; rintro x rout ⟨⟨t3, ht3, rfl⟩, ⟨c, c1, c2, rfl⟩⟩; refine ⟨rfl, ?_⟩; conv => whnf) | (refine CallX.of (yCodes n L hL _ ?_ ?_) [(1000000, 1000000)] rfl ⟨lr, trivial⟩ ⟨rr, trivial⟩ rfl rfl ?_; rotate_right; rintro x rout ⟨⟨t4, ht4, rfl⟩, ⟨c, c1, c2, rfl⟩⟩; refine ⟨rfl, ?_⟩; conv => whnf) | (refine CallX.of (yTaxes n L hL _ ?_ ?_) [(1000000, 1000000)] rfl ⟨lr, trivial⟩ ⟨rr, trivial⟩ rfl rfl ?_; rotate_right; rintro x rout ⟨⟨t5, ht5, rfl⟩, ⟨c, c1, c2, rfl⟩⟩; refine ⟨rfl, ?_⟩; conv => whnf) | (refine br_intro ?_ ?_ <;> intro hb <;> (try simp only [brs] at hb) <;> conv => whnf) | omega | (refine And.intro ?_ ?_; ((try dsimp only); first | omega | (refine szA rfl ?_; omega) | (refine szB rfl ?_; omega) | (unfold inI64; omega) | exact rfl | (simp only [List.toList_toArray, List.length_cons, List.length_nil]; omega) | (simp only [lns] at *; omega) | decide | (unfold inI64; decide)); conv => whnf) | decide | assumption)
 all_goals try omega
 refine .ret _ ?_
 conv => whnf
 exact ⟨[(1000000, strm n L _)], ⟨⟨⟨t1, t2, t3, t4, t5⟩, ⟨ht1, ht2, ht3, ht4, ht5⟩, rfl⟩, _, by omega, by omega, rfl⟩, rr, trivial⟩
set_option maxHeartbeats 4000000 in
theorem yRTariff (n : Nat) (L : Nat → Int) (hL : Rok n L) (a : Int) (h0 : 0 ≤ a) (ha : a ≤ 2^33) :
 FSpec Tryz.prog 57 [.ptr 1000000 0] [(1000000, strm n L a)] (fun y r => (∃ t : Tar, tarM t ∧ y = tar t) ∧ Moved n L a 2200 r) := by
 refine spec_of hT (C := []) Tryz.func57 rfl Tryz.call57 rfl rfl rfl ?_
 conv => whnf
 refine LoopX.rule hT (C := []) (ι := Int × Nat) (fun (b, i) => a ≤ b ∧ b ≤ a + 250 * i ∧ i ≤ 8)
  (fun (b, i) => mkSt [(0, .ptr 1000000 0), (2, .ptr 2 0), (4, .d (.int .i64 i))] [(1000000, strm n L b), (2, .cells 38 [.d .nilsl, .d .nilsl, .d .nilsl, .d .nilsl, .d .nilsl])])
  (fun (_, i) => 8 - i) (a, 0) ⟨by simp, by simp, by simp⟩ (by (refine Entails.mk' [(1000000, 1000000), (2, 2)] rfl rfl ?_ ?_ <;> repeat' (first | exact True.intro | exact lr | exact rr | exact SV.le_int (by omega) | exact SV.le_any _ | refine And.intro ?_ ?_)); done) ?_
 rintro ⟨b, i⟩ ⟨p1, p2, p3⟩
 have p1 : a ≤ b := p1
 have p2 : b ≤ a + 250 * i := p2
 have p3 : i ≤ 8 := p3
 conv => whnf
 repeat' (first | (refine CallX.of (yTariff n L hL _ ?_ ?_) [(1000000, 1000000)] rfl ⟨lr, trivial⟩ ⟨rr, trivial⟩ rfl rfl ?_; rotate_right; rintro x rout ⟨⟨t, ht, rfl⟩, ⟨c, c1, c2, rfl⟩⟩; refine ⟨rfl, ?_⟩; conv => whnf) | (refine CallX.pure (y84 _ ht.ok) ⟨lr, trivial⟩ rfl ?_; conv => whnf) | (refine CallX.of (y169 n L hL _ ?_ ?_) [(1000000, 1000000), (3, 14)] rfl ⟨lr, trivial⟩ ⟨rr, trivial⟩ rfl rfl ?_; rotate_right; rintro x rout ⟨l, c, hl, ⟨c1, c2⟩, rfl, rfl⟩; refine ⟨rfl, ?_⟩; conv => whnf) | (refine br_intro ?_ ?_ <;> intro hb <;> (try simp only [brs] at hb) <;> conv => whnf) | omega | (refine And.intro ?_ ?_; ((try dsimp only); first | omega | (refine szA rfl ?_; omega) | (refine szB rfl ?_; omega) | (unfold inI64; omega) | exact rfl | (simp only [List.toList_toArray, List.length_cons, List.length_nil]; omega) | (simp only [lns] at *; omega) | decide | (unfold inI64; decide)); conv => whnf) | decide | assumption)
 all_goals try omega
 · refine .ret _ ?_
   conv => whnf
   exact ⟨[(1000000, strm n L _)], ⟨⟨t, ht, rfl⟩, _, by omega, by omega, rfl⟩, rr, trivial⟩
 · exact ⟨(c, i + 1), ⟨by omega, by show _ ≤ a + 250 * ((i + 1 : Nat) : Int); omega, by omega⟩, by show 8 - (i + 1) < 8 - i; omega, (by (refine Entails.mk' [(1000000, 1000000), (2, 2)] rfl rfl ?_ ?_ <;> repeat' (first | exact True.intro | exact lr | exact rr | exact SV.le_int (by omega) | exact SV.le_any _ | refine And.intro ?_ ?_)); done)⟩
 · refine .freeze _ 14 130 7 _ _ rfl (.ent _ _ (Entails.froCell 2 14 7 _ 0 _ rfl rfl rfl) (.weak _ ?_))
   conv => whnf
   exact ⟨tar ⟨l, [], [], [], []⟩, [(1000000, strm n L _)], SV.le_agg ⟨lr, SV.le_nilS, SV.le_nilS, SV.le_nilS, SV.le_nilS, trivial⟩, ⟨⟨⟨l, [], [], [], []⟩, ⟨allK_le hl (by omega), ⟨by simp, by simp⟩, ⟨by simp, by simp⟩, ⟨by simp, by simp⟩, ⟨by simp, by simp⟩⟩, rfl⟩, _, by omega, by omega, rfl⟩, rr, trivial⟩
def oUTmE22_5 : List (Nat × List Nat) := [(0, []), (1, []), (2, [0, 1]), (3, [0, 1, 2]), (4, [0, 1, 2, 3]), (5, [0, 1, 2]), (6, [0, 1]), (7, [0, 1]), (8, []), (9, []), (10, [])]
def oUTmE22_7 : List (Nat × List Nat) := [(0, []), (1, [0]), (3, [0, 1]), (2, [0, 3]), (4, [0]), (5, []), (6, [])]
structure houM (h : Hou) : Prop where
 flt : fltK h.flt
 tar : tarM h.tar
theorem houM.ok {h : Hou} (k : houM h) : houOk h := ⟨k.flt.ok, k.tar.ok⟩
def st2 : List Sta := [⟨[115, 49], fun _ => 0⟩, ⟨[115, 50], fun _ => 0⟩]
def vk3 : List (List UInt8) := [[118, 49], [118, 50], [118, 51]]
set_option maxHeartbeats 4000000 in
theorem yRHouse (n : Nat) (L : Nat → Int) (hL : Rok n L) (a : Int) (h0 : 0 ≤ a) (ha : a ≤ 2^32) :
 FSpec Tryz.prog 22 [.ptr 1000000 0] [(1000000, strm n L a)] (fun y r => (∃ h : Hou, houM h ∧ y = hou h) ∧ Moved n L a 2400 r) := by
 refine spec_of hT (C := []) Tryz.func22 rfl Tryz.call22 rfl rfl rfl ?_
 conv => whnf
 repeat' (first | (refine CallX.of (sClss n L hL _ ?_ ?_) [(1000000, 1000000), (9, 10)] rfl ⟨lr, trivial⟩ ⟨rr, trivial⟩ rfl rfl ?_; rotate_right; rintro x rout ⟨cl, c, hcl, ⟨c1, c2⟩, rfl, rfl⟩; refine ⟨rfl, ?_⟩; conv => whnf) | (refine br_intro ?_ ?_ <;> intro hb <;> (try simp only [brs] at hb) <;> conv => whnf) | (refine RegX.rule (id := 5) hT rfl [] oUTmE22_5 (by decide +kernel) ?_; conv => whnf) | (refine RegX.rule (id := 7) hT rfl [] oUTmE22_7 (by decide +kernel) ?_; conv => whnf) | omega | (refine And.intro ?_ ?_; ((try dsimp only); first | omega | (refine szA rfl ?_; omega) | (refine szB rfl ?_; omega) | (unfold inI64; omega) | exact rfl | (simp only [List.toList_toArray, List.length_cons, List.length_nil]; omega) | (simp only [lns] at *; omega) | decide | (unfold inI64; decide)); conv => whnf) | decide | assumption)
 all_goals try omega
 obtain ⟨cc, hcc⟩ : ∃ cc : Int, cc = c := ⟨_, rfl⟩
 have hclb : clsB cl := ⟨by omega, hcl.2⟩
 refine LoopX.rule hT (C := []) (ι := Int × List Veh × Nat) (fun (b, l, i) => (cc ≤ b ∧ b ≤ cc + i ∧ i ≤ 3) ∧ allK vehK i l)
  (fun (b, l, i) => mkSt [(0, .ptr 1000000 0), (2, .ptr 2 0), (3, .ptr 3 0), (12, .d (strs vk3)), (13, .d (.int .i64 3)), (14, .d (.int .i64 i))] [(1000000, strm n L b), (3, .cells 31 [.d (stas st2), .buf 10, .buf 20, .d .nilsl]), (10, seqB 123 2 clsF cls0 cl), (20, seqB 93 2 vehF veh0 l), (2, .cells 42 ([.d .nilsl, .d .nilsl, .d .nilsl, .d .nilsl, .d .nilsl, .d .nilsl, .d .nilsl, .d .nilsl, .d .nilsl] ++ (deaF dea0).map .d))])
  (fun (_, _, i) => 3 - i) (cc, [], 0) ⟨⟨by simp, by simp, by simp⟩, ⟨by simp, by simp⟩⟩ ?_ ?_
 · subst hcc
   exact (Entails.nilCell 3 20 93 2 2 (rowF vehF veh0 []) rfl rfl rfl (by decide) rfl).trans (Entails.mk' [(1000000, 1000000), (3, 3), (10, 10), (20, 20), (2, 2)] rfl rfl ⟨lr, lr, lr, SV.le_lit rfl rfl, lr, lr, trivial⟩ ⟨rr, Res.le_cells rfl (by
    intro i x y hx hy
    match i with
    | 0 => cases hx; cases hy; exact SV.le_lit rfl rfl
    | 1 => cases hx; cases hy; exact lr
    | 2 => cases hx; cases hy; exact lr
    | 3 => cases hx; cases hy; exact lr
    | i + 4 => cases hx), rr, rr, rr, trivial⟩)
 rintro ⟨b, l, i⟩ ⟨⟨p1, p2, p3⟩, p4⟩
 have p1 : cc ≤ b := p1
 have p2 : b ≤ cc + i := p2
 have p3 : i ≤ 3 := p3
 have p4 : allK vehK i l := p4
 have hc3 : vk3.length = 3 := rfl
 have hl1 : l.length ≤ i := p4.1
 have hkk : (i : Int) < 3 → (vk3.getD (i : Int).toNat []).length ≤ 8 := fun h => mem_len (getD_mem (by omega)) rfl
 conv => whnf
 repeat' (first | (refine CallX.of (s15 n L hL _ ?_ ?_ [[109, 105, 110, 105], [109, 105, 110, 105], [109, 105, 100, 105]] (by simp) (by simp)) [(1000000, 1000000)] rfl ⟨lr, SV.le_lit rfl rfl, trivial⟩ ⟨rr, trivial⟩ rfl rfl ?_; rotate_right; rintro x rout ⟨⟨v1, hv1, rfl⟩, ⟨c, c1, c2, rfl⟩⟩; refine ⟨rfl, ?_⟩; conv => whnf) | (refine CallX.of (yRTariff n L hL _ ?_ ?_) [(1000000, 1000000)] rfl ⟨lr, trivial⟩ ⟨rr, trivial⟩ rfl rfl ?_; rotate_right; rintro x rout ⟨⟨t, ht, rfl⟩, ⟨c, c1, c2, rfl⟩⟩; refine ⟨rfl, ?_⟩; conv => whnf) | (refine CallX.of (yRDeal n L hL _ ?_ ?_) [(1000000, 1000000)] rfl ⟨lr, trivial⟩ ⟨rr, trivial⟩ rfl rfl ?_; rotate_right; rintro x rout ⟨⟨d, hd, rfl⟩, ⟨c, c1, c2, rfl⟩⟩; refine ⟨rfl, ?_⟩; conv => whnf) | (refine br_intro ?_ ?_ <;> intro hb <;> (try simp only [brs] at hb) <;> conv => whnf) | (refine RegX.rule (id := 5) hT rfl [] oUTmE22_5 (by decide +kernel) ?_; conv => whnf) | (refine RegX.rule (id := 7) hT rfl [] oUTmE22_7 (by decide +kernel) ?_; conv => whnf) | omega | (refine And.intro ?_ ?_; ((try dsimp only); first | omega | (refine szA rfl ?_; omega) | (refine szB rfl ?_; omega) | (unfold inI64; omega) | exact rfl | (simp only [List.toList_toArray, List.length_cons, List.length_nil]; omega) | (simp only [lns] at *; omega) | decide | (unfold inI64; decide)); conv => whnf) | decide | assumption)
 all_goals try omega
 · exact ⟨(c, l ++ [⟨vk3.getD (i : Int).toNat [], v1⟩], i + 1), ⟨⟨by omega, by show _ ≤ cc + ((i + 1 : Nat) : Int); omega, by omega⟩, allK_snoc p4 (by omega) ⟨hkk (by omega), mem_len hv1 rfl⟩⟩, by show 3 - (i + 1) < 3 - i; omega,
    Entails.mk' [(1000000, 1000000), (3, 3), (10, 10), (20, 26), (2, 2)] rfl rfl ⟨lr, lr, lr, lr, lr, lr, trivial⟩ ⟨rr, rr, rr, Res.le_snocF rfl, rr, trivial⟩⟩
 · refine .freeze _ 10 123 2 _ _ rfl (.freeze _ 20 93 2 _ _ rfl (.ent _ _ (Entails.froCell 2 10 2 _ 1 _ rfl rfl rfl) (.ent _ _ (Entails.froCell 2 20 2 _ 2 _ rfl rfl rfl) (.weak _ ?_))))
   conv => whnf
   exact ⟨hou ⟨⟨st2, cl, l, []⟩, t, d⟩, [(1000000, strm n L _)], SV.le_agg ⟨lr, lr, lr, SV.le_nilS, lr, lr, lr, lr, lr, lr, lr, lr, lr, lr, lr, lr, trivial⟩, ⟨⟨⟨⟨st2, cl, l, []⟩, t, d⟩, ⟨⟨⟨by show st2.length ≤ 4; decide, fun x hx => by
    simp only [st2, List.mem_cons, List.not_mem_nil, or_false] at hx
    rcases hx with rfl | rfl
    · show ([115, 49] : List UInt8).length ≤ 8; decide
    · show ([115, 50] : List UInt8).length ≤ 8; decide⟩, hclb, allK_le p4 (by omega), ⟨by simp, by simp⟩⟩, ht⟩, rfl⟩, _, by omega, by omega, rfl⟩, rr, trivial⟩
set_option maxHeartbeats 4000000 in
theorem yHouse (n : Nat) (L : Nat → Int) (hL : Rok n L) (a : Int) (h0 : 0 ≤ a) (ha : a ≤ 2^32) :
 FSpec Tryz.prog 4 [.ptr 1000000 0] [(1000000, strm n L a)] (fun y r => (∃ h : Hou, houM h ∧ y = hou h) ∧ Moved n L a 3100 r) := by
 refine spec_of hT (C := []) Tryz.func4 rfl Tryz.call4 rfl rfl rfl ?_
 conv => whnf
 repeat' (first | (refine CallX.of (yRHouse n L hL _ ?_ ?_) [(1000000, 1000000)] rfl ⟨lr, trivial⟩ ⟨rr, trivial⟩ rfl rfl ?_; rotate_right; rintro x rout ⟨⟨h, hh, rfl⟩, ⟨c, c1, c2, rfl⟩⟩; refine ⟨rfl, ?_⟩; conv => whnf) | (refine CallX.of (s84 n L hL _ ?_ ?_ 20 ?_) [(1000000, 1000000)] rfl ⟨lr, lr, trivial⟩ ⟨rr, trivial⟩ rfl rfl ?_; rotate_right; rintro x rout ⟨⟨w, rfl⟩, ⟨c, c1, c2, rfl⟩⟩; refine ⟨rfl, ?_⟩; conv => whnf) | (refine CallX.of (s86 n L hL _ ?_ ?_ 3 ?_) [(1000000, 1000000)] rfl ⟨lr, lr, trivial⟩ ⟨rr, trivial⟩ rfl rfl ?_; rotate_right; rintro x rout ⟨⟨m, hm1, hm2, hm3, rfl⟩, ⟨c, c1, c2, rfl⟩⟩; refine ⟨rfl, ?_⟩; conv => whnf) | (refine CallX.of (sFlt n L hL _ ?_ ?_) [(1000000, 1000000)] rfl ⟨lr, trivial⟩ ⟨rr, trivial⟩ rfl rfl ?_; rotate_right; rintro x rout ⟨⟨f, hf, rfl⟩, ⟨c, c1, c2, rfl⟩⟩; refine ⟨rfl, ?_⟩; conv => whnf) | (refine CallX.of (yTariff n L hL _ ?_ ?_) [(1000000, 1000000)] rfl ⟨lr, trivial⟩ ⟨rr, trivial⟩ rfl rfl ?_; rotate_right; rintro x rout ⟨⟨t, ht, rfl⟩, ⟨c, c1, c2, rfl⟩⟩; refine ⟨rfl, ?_⟩; conv => whnf) | (refine CallX.of (yDeal n L hL _ ?_ ?_) [(1000000, 1000000)] rfl ⟨lr, trivial⟩ ⟨rr, trivial⟩ rfl rfl ?_; rotate_right; rintro x rout ⟨⟨d, rfl⟩, ⟨c, c1, c2, rfl⟩⟩; refine ⟨rfl, ?_⟩; conv => whnf) | (refine br_intro ?_ ?_ <;> intro hb <;> (try simp only [brs] at hb) <;> conv => whnf) | omega | (refine And.intro ?_ ?_; ((try dsimp only); first | omega | (refine szA rfl ?_; omega) | (refine szB rfl ?_; omega) | (unfold inI64; omega) | exact rfl | (simp only [List.toList_toArray, List.length_cons, List.length_nil]; omega) | (simp only [lns] at *; omega) | decide | (unfold inI64; decide)); conv => whnf) | decide | assumption)
 all_goals try omega
 all_goals refine .ret _ ?_
 all_goals conv => whnf
 · exact ⟨[(1000000, strm n L _)], ⟨⟨⟨f, h.tar, h.dea⟩, ⟨hf, hh.tar⟩, rfl⟩, _, by omega, by omega, rfl⟩, rr, trivial⟩
 · exact ⟨[(1000000, strm n L _)], ⟨⟨⟨h.flt, t, h.dea⟩, ⟨hh.flt, ht⟩, rfl⟩, _, by omega, by omega, rfl⟩, rr, trivial⟩
 · exact ⟨[(1000000, strm n L _)], ⟨⟨⟨h.flt, h.tar, d⟩, ⟨hh.flt, hh.tar⟩, rfl⟩, _, by omega, by omega, rfl⟩, rr, trivial⟩
 · exact ⟨[(1000000, strm n L _)], ⟨⟨h, hh, rfl⟩, _, by omega, by omega, rfl⟩, rr, trivial⟩
def oUEmF3_17 : List (Nat × List Nat) := [(0, []), (2, [0]), (1, [2]), (3, []), (4, []), (5, []), (6, []), (8, [6]), (7, [8]), (9, []), (10, [])]
theorem yMerge (a b : List Ent) (ha : entOk a) (hb : entOk b) (hn : a.length + b.length < 20) :
 FSpec Tryz.prog 13 [.d (ents a), .d (ents b)] [] (fun x r => x = .tup [.d (ents (if mrgF a b = 0 then mrgEL a b else [])), .d (.int .i64 (mrgF a b))] ∧ r = []) := by
 have h := lz84 a b ha hb hn
 by_cases h0 : mrgF a b = 0
 · rw [if_pos h0] at h ⊢; exact h
 · rw [if_neg h0] at h ⊢; exact h.up (SV.le_tup ⟨SV.le_nilS, lr, trivial⟩)
def houL (h : Hou) : List SV := fltL h.flt ++ tarL h.tar ++ (deaF h.dea).map .d
theorem allK_set {α : Type} {K : α → Prop} {l : List α} {k i : Nat} {x : α} (h : allK K k l) (hx : i < l.length → K x) : allK K k (l.set i x) := by
 refine ⟨by rw [List.length_set]; exact h.1, fun p hp => ?_⟩
 by_cases hi : i < l.length
 · rcases List.mem_or_eq_of_mem_set hp with q | q
   · exact h.2 p q
   · exact q ▸ hx hi
 · rw [List.set_eq_of_length_le (by omega)] at hp; exact h.2 p hp
theorem getD_mem' {α : Type} {l : List α} {i : Nat} (h : i < l.length) (d : α) : l.getD i d ∈ l := by
 rw [List.getD_eq_getElem?_getD, List.getElem?_eq_getElem h]; exact List.getElem_mem h
theorem allK_drop {α : Type} {K : α → Prop} {l : List α} {k j : Nat} (h : allK K k l) : allK K k (l.drop j) :=
 ⟨by rw [List.length_drop]; have := h.1; omega, fun p hp => h.2 p (List.mem_of_mem_drop hp)⟩
theorem emW {A : List Ent} {k : Nat} (h : allK entG k A) (j i : Nat) : ((A.drop j).getD i en0).words.length ≤ 2^10 := by
 by_cases hi : i < (A.drop j).length
 · exact (h.2 _ (List.mem_of_mem_drop (getD_mem' hi en0))).1.2
 · rw [List.getD_eq_getElem?_getD, List.getElem?_eq_none (by omega)]; decide
theorem emFin {F E x : Int} {M X Y : List Ent} (hF : F = if x ≠ 0 then x else E) (hX : X = if F = 0 then M else []) (hY : Y = if E = 0 then M else []) : (x = 0 → F = E ∧ X = Y) ∧ (x ≠ 0 → F = x ∧ X = []) := by
 refine ⟨fun h => ?_, fun h => ?_⟩
 · rw [if_neg (by simpa using h)] at hF; subst hF; exact ⟨rfl, hX.trans hY.symm⟩
 · rw [if_pos h] at hF; subst hF; rw [if_neg h] at hX; exact ⟨rfl, hX⟩
def emX (l : List Ent) : Ent := { l.getD 0 en0 with words := (l.getD 0 en0).words ++ [120] }
theorem emPut (l : List Ent) : SV.le (.d (.ro 4 l.length fun i => bif Nat.beq i 0 then setAtD (rowF enF en0 l i) 3 [.str ((l.getD 0 en0).words ++ [120])] else rowF enF en0 l i)) (.d (ents (l.set 0 (emX l)))) :=
 SV.le_putF fun y hy => by
  have h : l.getD 0 en0 = y := by rw [List.getD_eq_getElem?_getD, hy]; rfl
  subst h; rfl
theorem emX_ok {A : List Ent} {k : Nat} (h : allK entG k A) (hk : k ≤ 2^20) (j : Nat) : entOk ((A.drop j).set 0 (emX (A.drop j))) := by
 have hd := entG_ok (allK_drop h (j := j)) hk
 refine ⟨by rw [List.length_set]; exact hd.1, fun p hp => ?_⟩
 by_cases hi : 0 < (A.drop j).length
 · rcases List.mem_or_eq_of_mem_set hp with q | q
   · exact hd.2 p q
   · subst q
     have h1 := hd.2 _ (getD_mem' hi en0)
     have h2 := emW h j 0
     refine ⟨⟨h1.1.1, ?_⟩, h1.2⟩
     show (((List.drop j A).getD 0 en0).words ++ [120]).length ≤ _
     rw [List.length_append, List.length_singleton]; omega
 · rw [List.set_eq_of_length_le (by omega)] at hp; exact hd.2 p hp
set_option maxHeartbeats 4000000 in
theorem z3 (n : Nat) (L : Nat → Int) (hn : n ≤ maxLen) (hL0 : ∀ i, -2^63 ≤ L i ∧ L i < 2^63) :
 FSpec Tryz.prog 3 [.d (.ro 1 n fun i => [.int .i64 (L i)])] kx (fun x r => x = .d (.bool true) ∧ r = kx) := by
 have hL : Rok n L := ⟨hn, hL0⟩
 refine spec_of hT (C := []) Tryz.func3 rfl Tryz.call3 rfl rfl rfl ?_
 conv => whnf
 repeat' (first | (refine CallX.of (yHouse n L hL _ ?_ ?_) [(1000000, 14)] rfl ⟨lr, trivial⟩ ⟨rr, trivial⟩ rfl rfl ?_; rotate_right; rintro x rout ⟨⟨h, hh, rfl⟩, ⟨c, c1, c2, rfl⟩⟩; refine ⟨rfl, ?_⟩; conv => whnf) | (refine CallX.of (s64 n L hL _ ?_ ?_ 0 8 (by omega) (by omega) (by omega) (by omega)) [(1000000, 14)] rfl ⟨lr, lr, lr, trivial⟩ ⟨rr, trivial⟩ rfl rfl ?_; rotate_right; rintro x rout ⟨⟨m1, hm1, hm2, rfl⟩, ⟨c, c1, c2, rfl⟩⟩; refine ⟨rfl, ?_⟩; conv => whnf) | (refine CallX.of (s64 n L hL _ ?_ ?_ 0 5 (by omega) (by omega) (by omega) (by omega)) [(1000000, 14)] rfl ⟨lr, lr, lr, trivial⟩ ⟨rr, trivial⟩ rfl rfl ?_; rotate_right; rintro x rout ⟨⟨m2, hm3, hm4, rfl⟩, ⟨c, c1, c2, rfl⟩⟩; refine ⟨rfl, ?_⟩; conv => whnf) | (refine CallX.of (lz9 n L hL _ ?_ ?_ m1 (by omega) (by omega)) [(1000000, 14), (1000009, 1000009), (5, 20)] rfl ⟨lr, lr, trivial⟩ ⟨rr, rr, trivial⟩ rfl rfl ?_; rotate_right; rintro x rout ⟨A, c, hAG, ⟨c1, c2⟩, rfl, rfl⟩; refine ⟨rfl, ?_⟩; conv => whnf) | (refine CallX.of (lz9 n L hL _ ?_ ?_ m2 (by omega) (by omega)) [(1000000, 14), (1000009, 1000009), (5, 24)] rfl ⟨lr, lr, trivial⟩ ⟨rr, rr, trivial⟩ rfl rfl ?_; rotate_right; rintro x rout ⟨B, c, hBG, ⟨c1, c2⟩, rfl, rfl⟩; refine ⟨rfl, ?_⟩; conv => whnf) | (refine br_intro ?_ ?_ <;> intro hb <;> (try simp only [brs] at hb) <;> conv => whnf) | (refine RegX.rule (id := 17) hT rfl [] oUEmF3_17 (by decide +kernel) ?_; conv => whnf) | omega | (refine And.intro ?_ ?_; ((try dsimp only); first | omega | (refine szA rfl ?_; omega) | (refine szB rfl ?_; omega) | (unfold inI64; omega) | exact rfl | (simp only [List.toList_toArray, List.length_cons, List.length_nil]; omega) | (simp only [lns] at *; omega) | decide | (unfold inI64; decide)); conv => whnf) | decide | assumption)
 all_goals try omega
 refine LoopX.rule hT (C := []) (ι := Int × List Ent × Nat) (fun (b, l, i) => (c ≤ b ∧ b ≤ c + 50 * i ∧ i ≤ B.length) ∧ (allK entG m2.toNat l ∧ l.length = B.length))
  (fun (b, l, i) => mkSt [(3, .ptr 14 0), (4, .ptr 4 0), (5, .buf 20), (6, .buf 24), (26, .d (.int .i64 B.length)), (27, .d (.int .i64 i))] [(14, strm n L b), (1000009, KX), (4, .cells 42 (houL h)), (20, enB A), (24, enB l)])
  (fun (_, _, i) => B.length - i) (c, B, 0) ⟨⟨by simp, by simp, by simp⟩, hBG, rfl⟩ ?_ ?_
 · refine Entails.mk' [(14, 14), (1000009, 1000009), (4, 4), (20, 20), (24, 24)] rfl rfl ⟨lr, lr, lr, lr, lr, lr, trivial⟩ ⟨rr, rr, rr, rr, rr, trivial⟩
 rintro ⟨b, l, i⟩ ⟨⟨p1, p2, p3⟩, q1, q2⟩
 have p1 : c ≤ b := p1
 have p2 : b ≤ c + 50 * i := p2
 have p3 : i ≤ B.length := p3
 have hl1 := hBG.1
 have e1 : (i : Int).toNat = i := Int.toNat_natCast i
 conv => whnf
 repeat' (first | (refine CallX.of (s15 n L hL _ ?_ ?_ [[100, 52], [100, 52], [100, 52], [100, 53]] (by simp) (by simp)) [(1000000, 14)] rfl ⟨lr, SV.le_lit rfl rfl, trivial⟩ ⟨rr, trivial⟩ rfl rfl ?_; rotate_right; rintro x rout ⟨⟨u2, hu2, rfl⟩, ⟨c, c1, c2, rfl⟩⟩; have hw2 := mem_len hu2 rfl; refine ⟨rfl, ?_⟩; conv => whnf) | (refine br_intro ?_ ?_ <;> intro hb <;> (try simp only [brs] at hb) <;> conv => whnf) | (refine RegX.rule (id := 17) hT rfl [] oUEmF3_17 (by decide +kernel) ?_; conv => whnf) | omega | (refine And.intro ?_ ?_; ((try dsimp only); first | omega | (refine szA rfl ?_; omega) | (refine szB rfl ?_; omega) | (unfold inI64; omega) | exact rfl | (simp only [List.toList_toArray, List.length_cons, List.length_nil]; omega) | (simp only [lns] at *; omega) | decide | (unfold inI64; decide)); conv => whnf) | decide | assumption)
 all_goals first
  | (refine ⟨(_, l.set i { l.getD i en0 with desk := u2 }, i + 1), ?_, ?_, Entails.mk' [(14, 14), (1000009, 1000009), (4, 4), (20, 20), (24, 24)] rfl rfl ⟨lr, lr, lr, lr, lr, lr, trivial⟩ ⟨rr, rr, rr, rr, Res.le_upd (fun y : Ent => { y with desk := u2 }) (fun _ => rfl), trivial⟩⟩
     · dsimp only
       refine ⟨⟨by omega, by omega, by omega⟩, allK_set q1 (fun hi => ?_), ?_⟩
       · have hq := q1.2 _ (getD_mem' hi en0)
         exact ⟨⟨Nat.le_trans hw2 (by decide), hq.1.2⟩, hq.2⟩
       · rw [List.length_set]; exact q2
     · show B.length - (i + 1) < B.length - i; omega)
  | (refine ⟨(_, l, i + 1), ?_, ?_, Entails.mk' [(14, 14), (1000009, 1000009), (4, 4), (20, 20), (24, 24)] rfl rfl ⟨lr, lr, lr, lr, lr, lr, trivial⟩ ⟨rr, rr, rr, rr, rr, trivial⟩⟩
     · dsimp only
       exact ⟨⟨by omega, by omega, by omega⟩, q1, q2⟩
     · show B.length - (i + 1) < B.length - i; omega)
  | skip
 refine CallX.of (en126 9 entCmp l (by omega) (fun p q hp hq => lz63 p q (q1.2 p hp).2 (q1.2 q hq).2)) [(1000001, 24)] rfl ⟨lr, lr, trivial⟩ ⟨rr, trivial⟩ rfl rfl ?_
 rintro x rout ⟨rfl, e, he, rfl⟩
 refine ⟨rfl, ?_⟩
 have he1 := he.1
 have hAl := hAG.1
 have heG : allK entG 5 e := ⟨by omega, fun p hp => q1.2 p (he.2 p hp)⟩
 have hAG8 : allK entG 8 A := ⟨by omega, hAG.2⟩
 conv => whnf
 have emFlip := fun (a : Int) (h0 : 0 ≤ a) (h1 : a ≤ 2^40) (m : Int) (h2 : m ≤ 2^40) => s84 n L hL a h0 h1 m h2
 repeat' (first | (refine CallX.of (emFlip _ ?_ ?_ _ ?_) [(1000000, 14)] rfl ⟨lr, lr, trivial⟩ ⟨rr, trivial⟩ rfl rfl ?_; rotate_right; rintro x rout ⟨⟨f, rfl⟩, ⟨c, c1, c2, rfl⟩⟩; refine ⟨rfl, ?_⟩; cases f <;> conv => whnf; conv => whnf) | (refine CallX.of (s86 n L hL _ ?_ ?_ _ ?_) [(1000000, 14)] rfl ⟨lr, lr, trivial⟩ ⟨rr, trivial⟩ rfl rfl ?_; rotate_right; rintro x rout ⟨⟨j, hj1, hj2, hj3, rfl⟩, rfl⟩; refine ⟨rfl, ?_⟩; conv => whnf) | (refine SliceX.freeze _ _ _ _ rfl ?_; conv => whnf) | (refine CallX.of (y16 (A.drop j.toNat) (by rw [List.length_drop]; omega) (by rw [List.length_drop]; omega)) [(7, 60)] rfl ⟨SV.le_drop (by rw [List.length_drop]; omega), trivial⟩ trivial rfl rfl ?_; rintro x rout ⟨rfl, rfl⟩; refine ⟨rfl, ?_⟩; conv => whnf) | (refine And.intro (by rw [List.length_drop]; omega) ?_; conv => whnf) | (refine And.intro (by have := emW hAG j.toNat (Int.toNat 0); show _ + 1 ≤ _; omega) ?_; conv => whnf) | (refine br_intro ?_ ?_ <;> intro hb <;> (try simp only [brs] at hb) <;> conv => whnf) | (refine RegX.rule (id := 17) hT rfl [] oUEmF3_17 (by decide +kernel) ?_; conv => whnf) | omega | (refine And.intro ?_ ?_; ((try dsimp only); first | omega | (refine szA rfl ?_; omega) | (refine szB rfl ?_; omega) | (unfold inI64; omega) | exact rfl | (simp only [List.toList_toArray, List.length_cons, List.length_nil]; omega) | (simp only [lns] at *; omega) | decide | (unfold inI64; decide)); conv => whnf) | decide | assumption)
 · have hB : entOk e := entG_ok heG (by omega)
   have hAB : A.length + e.length < 20 := by first | omega | (rw [List.length_set, List.length_drop]; omega) | (rw [List.length_drop]; omega)
   have hA := entG_ok hAG (by omega)
   have C13 := yMerge A e hA hB hAB
   have C14 := lz12 A hA
   have C17 := lz64 A hA
   have C14b := lz12 e hB
   have C15 := y20h h hh.ok
   have C16 := y21h h hh.ok
   have C18 := s17 [entsE A, entsE e] (by simp)
   have C19 := y19 A e hA hB hAB
   have hF : mrgF A e = if firstE [entsE A, entsE e] ≠ 0 then firstE [entsE A, entsE e] else eoF A e := rfl
   have hM := mrgEL_len A e
   generalize entsE A = eA at C14 C17 C18 hF
   generalize entsE e = eB at C14b C18 hF
   generalize mrgF A e = F at C13 hF
   generalize eoF A e = E at C19 hF
   generalize houE h = eH at C15 C16
   obtain ⟨X, hX⟩ : ∃ X, X = if F = 0 then mrgEL A e else [] := ⟨_, rfl⟩
   obtain ⟨Y, hY⟩ : ∃ Y, Y = if E = 0 then mrgEL A e else [] := ⟨_, rfl⟩
   rw [← hX] at C13
   rw [← hY] at C19
   have hXl : X.length ≤ 20 := by rw [hX]; split <;> first | omega | simp
   have C20 := fun Z => lz17 X Z (by omega)
   repeat' (first | (refine CallX.freeze _ _ _ _ 20 48 4 _ _ rfl rfl ?_; refine CallX.freeze _ _ _ _ 24 48 4 _ _ rfl rfl ?_; refine CallX.pure C13 ⟨lr, lr, trivial⟩ rfl ?_; conv => whnf) | (refine CallX.pure C14 ⟨lr, trivial⟩ rfl ?_; conv => whnf) | (refine CallX.pure C15 ⟨lr, trivial⟩ rfl ?_; conv => whnf) | (refine CallX.pure C16 ⟨lr, trivial⟩ rfl ?_; conv => whnf) | (refine CallX.pure C17 ⟨lr, trivial⟩ rfl ?_; conv => whnf) | (refine CallX.pure C14b ⟨lr, trivial⟩ rfl ?_; conv => whnf) | (refine CallX.pure C18 ⟨SV.le_lit rfl rfl, trivial⟩ rfl ?_; conv => whnf) | (refine CallX.pure C19 ⟨lr, lr, trivial⟩ rfl ?_; conv => whnf) | (refine CallX.pure (C20 Y) ⟨lr, lr, trivial⟩ rfl ?_; conv => whnf) | (refine CallX.pure (C20 []) ⟨lr, SV.le_nilS, trivial⟩ rfl ?_; conv => whnf) | (refine CallX.exact (y26) rfl rfl ?_; rotate_right; conv => whnf) | (refine br_intro ?_ ?_ <;> intro hb <;> (try simp only [brs] at hb) <;> conv => whnf) | (refine RegX.rule (id := 17) hT rfl [] oUEmF3_17 (by decide +kernel) ?_; conv => whnf) | omega | (refine And.intro ?_ ?_; ((try dsimp only); first | omega | (refine szA rfl ?_; omega) | (refine szB rfl ?_; omega) | (unfold inI64; omega) | exact rfl | (simp only [List.toList_toArray, List.length_cons, List.length_nil]; omega) | (simp only [lns] at *; omega) | decide | (unfold inI64; decide)); conv => whnf) | decide | assumption)
   all_goals
    refine .ret _ ?_
    conv => whnf
    refine ⟨kx, ⟨?_, rfl⟩, rr, trivial⟩
    conv => lhs; whnf
   all_goals
    have hZ := emFin hF hX hY
    first
     | rfl
     | exact absurd (hZ.1 ‹_›).2 hb
     | exact absurd (hZ.2 ‹_›).2 hb
     | exact absurd (hZ.1 ‹_›).1 hb
     | exact absurd (hZ.2 ‹_›).1 hb
 · have hB : entOk (A.drop j.toNat) := entG_ok (allK_drop hAG) (by omega)
   have hAB : A.length + (A.drop j.toNat).length < 20 := by first | omega | (rw [List.length_set, List.length_drop]; omega) | (rw [List.length_drop]; omega)
   have hA := entG_ok hAG (by omega)
   have C13 := yMerge A (A.drop j.toNat) hA hB hAB
   have C14 := lz12 A hA
   have C17 := lz64 A hA
   have C14b := lz12 (A.drop j.toNat) hB
   have C15 := y20h h hh.ok
   have C16 := y21h h hh.ok
   have C18 := s17 [entsE A, entsE (A.drop j.toNat)] (by simp)
   have C19 := y19 A (A.drop j.toNat) hA hB hAB
   have hF : mrgF A (A.drop j.toNat) = if firstE [entsE A, entsE (A.drop j.toNat)] ≠ 0 then firstE [entsE A, entsE (A.drop j.toNat)] else eoF A (A.drop j.toNat) := rfl
   have hM := mrgEL_len A (A.drop j.toNat)
   generalize entsE A = eA at C14 C17 C18 hF
   generalize entsE (A.drop j.toNat) = eB at C14b C18 hF
   generalize mrgF A (A.drop j.toNat) = F at C13 hF
   generalize eoF A (A.drop j.toNat) = E at C19 hF
   generalize houE h = eH at C15 C16
   obtain ⟨X, hX⟩ : ∃ X, X = if F = 0 then mrgEL A (A.drop j.toNat) else [] := ⟨_, rfl⟩
   obtain ⟨Y, hY⟩ : ∃ Y, Y = if E = 0 then mrgEL A (A.drop j.toNat) else [] := ⟨_, rfl⟩
   rw [← hX] at C13
   rw [← hY] at C19
   have hXl : X.length ≤ 20 := by rw [hX]; split <;> first | omega | simp
   have C20 := fun Z => lz17 X Z (by omega)
   repeat' (first | (refine CallX.freeze _ _ _ _ 60 48 4 _ _ rfl rfl ?_; refine CallX.pure C13 ⟨lr, lr, trivial⟩ rfl ?_; conv => whnf) | (refine CallX.pure C14 ⟨lr, trivial⟩ rfl ?_; conv => whnf) | (refine CallX.pure C15 ⟨lr, trivial⟩ rfl ?_; conv => whnf) | (refine CallX.pure C16 ⟨lr, trivial⟩ rfl ?_; conv => whnf) | (refine CallX.pure C17 ⟨lr, trivial⟩ rfl ?_; conv => whnf) | (refine CallX.pure C14b ⟨lr, trivial⟩ rfl ?_; conv => whnf) | (refine CallX.pure C18 ⟨SV.le_lit rfl rfl, trivial⟩ rfl ?_; conv => whnf) | (refine CallX.pure C19 ⟨lr, lr, trivial⟩ rfl ?_; conv => whnf) | (refine CallX.pure (C20 Y) ⟨lr, lr, trivial⟩ rfl ?_; conv => whnf) | (refine CallX.pure (C20 []) ⟨lr, SV.le_nilS, trivial⟩ rfl ?_; conv => whnf) | (refine CallX.exact (y26) rfl rfl ?_; rotate_right; conv => whnf) | (refine br_intro ?_ ?_ <;> intro hb <;> (try simp only [brs] at hb) <;> conv => whnf) | (refine RegX.rule (id := 17) hT rfl [] oUEmF3_17 (by decide +kernel) ?_; conv => whnf) | omega | (refine And.intro ?_ ?_; ((try dsimp only); first | omega | (refine szA rfl ?_; omega) | (refine szB rfl ?_; omega) | (unfold inI64; omega) | exact rfl | (simp only [List.toList_toArray, List.length_cons, List.length_nil]; omega) | (simp only [lns] at *; omega) | decide | (unfold inI64; decide)); conv => whnf) | decide | assumption)
   all_goals
    refine .ret _ ?_
    conv => whnf
    refine ⟨kx, ⟨?_, rfl⟩, rr, trivial⟩
    conv => lhs; whnf
   all_goals
    have hZ := emFin hF hX hY
    first
     | rfl
     | exact absurd (hZ.1 ‹_›).2 hb
     | exact absurd (hZ.2 ‹_›).2 hb
     | exact absurd (hZ.1 ‹_›).1 hb
     | exact absurd (hZ.2 ‹_›).1 hb
 · have hB : entOk ((A.drop j.toNat).set 0 (emX (A.drop j.toNat))) := emX_ok hAG (by omega) j.toNat
   have hAB : A.length + ((A.drop j.toNat).set 0 (emX (A.drop j.toNat))).length < 20 := by first | omega | (rw [List.length_set, List.length_drop]; omega) | (rw [List.length_drop]; omega)
   have hA := entG_ok hAG (by omega)
   have C13 := yMerge A ((A.drop j.toNat).set 0 (emX (A.drop j.toNat))) hA hB hAB
   have C14 := lz12 A hA
   have C17 := lz64 A hA
   have C14b := lz12 ((A.drop j.toNat).set 0 (emX (A.drop j.toNat))) hB
   have C15 := y20h h hh.ok
   have C16 := y21h h hh.ok
   have C18 := s17 [entsE A, entsE ((A.drop j.toNat).set 0 (emX (A.drop j.toNat)))] (by simp)
   have C19 := y19 A ((A.drop j.toNat).set 0 (emX (A.drop j.toNat))) hA hB hAB
   have hF : mrgF A ((A.drop j.toNat).set 0 (emX (A.drop j.toNat))) = if firstE [entsE A, entsE ((A.drop j.toNat).set 0 (emX (A.drop j.toNat)))] ≠ 0 then firstE [entsE A, entsE ((A.drop j.toNat).set 0 (emX (A.drop j.toNat)))] else eoF A ((A.drop j.toNat).set 0 (emX (A.drop j.toNat))) := rfl
   have hM := mrgEL_len A ((A.drop j.toNat).set 0 (emX (A.drop j.toNat)))
   generalize entsE A = eA at C14 C17 C18 hF
   generalize entsE ((A.drop j.toNat).set 0 (emX (A.drop j.toNat))) = eB at C14b C18 hF
   generalize mrgF A ((A.drop j.toNat).set 0 (emX (A.drop j.toNat))) = F at C13 hF
   generalize eoF A ((A.drop j.toNat).set 0 (emX (A.drop j.toNat))) = E at C19 hF
   generalize houE h = eH at C15 C16
   obtain ⟨X, hX⟩ : ∃ X, X = if F = 0 then mrgEL A ((A.drop j.toNat).set 0 (emX (A.drop j.toNat))) else [] := ⟨_, rfl⟩
   obtain ⟨Y, hY⟩ : ∃ Y, Y = if E = 0 then mrgEL A ((A.drop j.toNat).set 0 (emX (A.drop j.toNat))) else [] := ⟨_, rfl⟩
   rw [← hX] at C13
   rw [← hY] at C19
   have hXl : X.length ≤ 20 := by rw [hX]; split <;> first | omega | simp
   have C20 := fun Z => lz17 X Z (by omega)
   repeat' (first | (refine CallX.freeze _ _ _ _ 60 48 4 _ _ rfl rfl ?_; refine CallX.pure C13 ⟨lr, emPut _, trivial⟩ rfl ?_; conv => whnf) | (refine CallX.pure C14 ⟨lr, trivial⟩ rfl ?_; conv => whnf) | (refine CallX.pure C15 ⟨lr, trivial⟩ rfl ?_; conv => whnf) | (refine CallX.pure C16 ⟨lr, trivial⟩ rfl ?_; conv => whnf) | (refine CallX.pure C17 ⟨lr, trivial⟩ rfl ?_; conv => whnf) | (refine CallX.pure C14b ⟨emPut _, trivial⟩ rfl ?_; conv => whnf) | (refine CallX.pure C18 ⟨SV.le_lit rfl rfl, trivial⟩ rfl ?_; conv => whnf) | (refine CallX.pure C19 ⟨lr, emPut _, trivial⟩ rfl ?_; conv => whnf) | (refine CallX.pure (C20 Y) ⟨lr, lr, trivial⟩ rfl ?_; conv => whnf) | (refine CallX.pure (C20 []) ⟨lr, SV.le_nilS, trivial⟩ rfl ?_; conv => whnf) | (refine CallX.exact (y26) rfl rfl ?_; rotate_right; conv => whnf) | (refine br_intro ?_ ?_ <;> intro hb <;> (try simp only [brs] at hb) <;> conv => whnf) | (refine RegX.rule (id := 17) hT rfl [] oUEmF3_17 (by decide +kernel) ?_; conv => whnf) | omega | (refine And.intro ?_ ?_; ((try dsimp only); first | omega | (refine szA rfl ?_; omega) | (refine szB rfl ?_; omega) | (unfold inI64; omega) | exact rfl | (simp only [List.toList_toArray, List.length_cons, List.length_nil]; omega) | (simp only [lns] at *; omega) | decide | (unfold inI64; decide)); conv => whnf) | decide | assumption)
   all_goals
    refine .ret _ ?_
    conv => whnf
    refine ⟨kx, ⟨?_, rfl⟩, rr, trivial⟩
    conv => lhs; whnf
   all_goals
    have hZ := emFin hF hX hY
    first
     | rfl
     | exact absurd (hZ.1 ‹_›).2 hb
     | exact absurd (hZ.2 ‹_›).2 hb
     | exact absurd (hZ.1 ‹_›).1 hb
     | exact absurd (hZ.2 ‹_›).1 hb
 · have hB : entOk e := entG_ok heG (by omega)
   have hAB : A.length + e.length < 20 := by first | omega | (rw [List.length_set, List.length_drop]; omega) | (rw [List.length_drop]; omega)
   have hA := entG_ok hAG (by omega)
   have C13 := yMerge A e hA hB hAB
   have C14 := lz12 A hA
   have C17 := lz64 A hA
   have C14b := lz12 e hB
   have C15 := y20h h hh.ok
   have C16 := y21h h hh.ok
   have C18 := s17 [entsE A, entsE e] (by simp)
   have C19 := y19 A e hA hB hAB
   have hF : mrgF A e = if firstE [entsE A, entsE e] ≠ 0 then firstE [entsE A, entsE e] else eoF A e := rfl
   have hM := mrgEL_len A e
   generalize entsE A = eA at C14 C17 C18 hF
   generalize entsE e = eB at C14b C18 hF
   generalize mrgF A e = F at C13 hF
   generalize eoF A e = E at C19 hF
   generalize houE h = eH at C15 C16
   obtain ⟨X, hX⟩ : ∃ X, X = if F = 0 then mrgEL A e else [] := ⟨_, rfl⟩
   obtain ⟨Y, hY⟩ : ∃ Y, Y = if E = 0 then mrgEL A e else [] := ⟨_, rfl⟩
   rw [← hX] at C13
   rw [← hY] at C19
   have hXl : X.length ≤ 20 := by rw [hX]; split <;> first | omega | simp
   have C20 := fun Z => lz17 X Z (by omega)
   repeat' (first | (refine CallX.freeze _ _ _ _ 20 48 4 _ _ rfl rfl ?_; refine CallX.freeze _ _ _ _ 24 48 4 _ _ rfl rfl ?_; refine CallX.pure C13 ⟨lr, lr, trivial⟩ rfl ?_; conv => whnf) | (refine CallX.pure C14 ⟨lr, trivial⟩ rfl ?_; conv => whnf) | (refine CallX.pure C15 ⟨lr, trivial⟩ rfl ?_; conv => whnf) | (refine CallX.pure C16 ⟨lr, trivial⟩ rfl ?_; conv => whnf) | (refine CallX.pure C17 ⟨lr, trivial⟩ rfl ?_; conv => whnf) | (refine CallX.pure C14b ⟨lr, trivial⟩ rfl ?_; conv => whnf) | (refine CallX.pure C18 ⟨SV.le_lit rfl rfl, trivial⟩ rfl ?_; conv => whnf) | (refine CallX.pure C19 ⟨lr, lr, trivial⟩ rfl ?_; conv => whnf) | (refine CallX.pure (C20 Y) ⟨lr, lr, trivial⟩ rfl ?_; conv => whnf) | (refine CallX.pure (C20 []) ⟨lr, SV.le_nilS, trivial⟩ rfl ?_; conv => whnf) | (refine CallX.exact (y26) rfl rfl ?_; rotate_right; conv => whnf) | (refine br_intro ?_ ?_ <;> intro hb <;> (try simp only [brs] at hb) <;> conv => whnf) | (refine RegX.rule (id := 17) hT rfl [] oUEmF3_17 (by decide +kernel) ?_; conv => whnf) | omega | (refine And.intro ?_ ?_; ((try dsimp only); first | omega | (refine szA rfl ?_; omega) | (refine szB rfl ?_; omega) | (unfold inI64; omega) | exact rfl | (simp only [List.toList_toArray, List.length_cons, List.length_nil]; omega) | (simp only [lns] at *; omega) | decide | (unfold inI64; decide)); conv => whnf) | decide | assumption)
   all_goals
    refine .ret _ ?_
    conv => whnf
    refine ⟨kx, ⟨?_, rfl⟩, rr, trivial⟩
    conv => lhs; whnf
   all_goals
    have hZ := emFin hF hX hY
    first
     | rfl
     | exact absurd (hZ.1 ‹_›).2 hb
     | exact absurd (hZ.2 ‹_›).2 hb
     | exact absurd (hZ.1 ‹_›).1 hb
     | exact absurd (hZ.2 ‹_›).1 hb
end Go.Proofs.YtobgeiclibhiiaaGreatDoor
