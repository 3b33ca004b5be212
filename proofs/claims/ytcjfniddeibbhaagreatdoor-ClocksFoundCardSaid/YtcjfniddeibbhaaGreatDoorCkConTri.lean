/- ClocksFound is proved: for every input the law returns true, and its argument reads afterwards as it read before. Conditions: those of the given row alone. -/
import Derived.Test.YtcjfniddeibbhaaGreatDoorCkConOne
import Derived.Test.YtcjfniddeibbhaaGreatDoorCkConTwo
import Derived.Shelf.Small.Strs
import Derived.Test.YtcjfniddeibbhaaGreatDoorProg
import Derived.Test.YtcjfniddeibbhaaGreatDoorCkEngTwo
import Derived.Sort.OwnSortedInts
import Derived.Shelf.Sort.Plain
import Derived.Shelf.GgSortFunc.InsertionK
import Derived.Shelf.SlSortCmp.NoneTotal
import Derived.Shelf.SlicesG.Cmp
set_option linter.unusedVariables false
set_option linter.unusedSimpArgs false
set_option maxRecDepth 20000
namespace Go.Proofs.YtcjfniddeibbhaaGreatDoor
open Go Go.Eng
abbrev Win := Int × Int
def vwF : Win → List DV := fun p => [.int .i64 p.1, .int .i64 p.2]
def vw0 : Win := (0, 0)
abbrev wins (l : List Win) : DV := seqD 2 vwF vw0 l
abbrev vwB (l : List Win) : Res := seqB 65 2 vwF vw0 l
def lastE (x : Leg) : Int := if x.inn.tm = -1 then 5761440 else x.inn.tm
def onL (v : List UInt8) (x : Leg) (t : Int) : Bool := decide (x.veh = v) && (decide (x.out.tm ≤ t) && decide (t < lastE x))
def occ (v : List UInt8) (h : Hir) (t : Int) : Bool := h.legs.any fun x => onL v x t
def lgSeq (ls : List Leg) : Prop := (∀ x ∈ ls, 0 ≤ x.out.tm ∧ x.out.tm < lastE x ∧ lastE x ≤ 5761440) ∧ ∀ i j, i < j → j < ls.length → lastE (ls.getD i lg0) ≤ (ls.getD j lg0).out.tm
theorem rdgE_zero {r : Rdg} (h : rdgE r = 0) : 0 ≤ r.tm ∧ r.tm ≤ 5761439 := by
 unfold rdgE at h
 split at h
 · omega
 · omega
theorem legE_zero {h : Hir} {i : Nat} (he : legE h i = 0) : (0 ≤ (h.legs.getD i lg0).out.tm ∧ (h.legs.getD i lg0).out.tm < lastE (h.legs.getD i lg0) ∧ lastE (h.legs.getD i lg0) ≤ 5761440) ∧ (0 < i → (h.legs.getD i lg0).out.tm = (h.legs.getD (i - 1) lg0).inn.tm) ∧
 ((h.legs.getD i lg0).inn.tm = -1 → (h.legs.length : Int) - 1 ≤ i) := by
 unfold legE at he
 split at he
 · omega
 split at he
 · omega
 rename_i h1 h2
 have ho := rdgE_zero (Classical.not_not.1 h2)
 split at he
 · omega
 split at he
 · omega
 rename_i h3 h4
 split at he
 · omega
 split at he
 · omega
 split at he
 · rename_i h5
   split at he
   · omega
   split at he
   · omega
   refine ⟨⟨ho.1, ?_, ?_⟩, fun q => Classical.byContradiction fun q2 => h4 ⟨q, q2⟩, fun _ => by omega⟩
   · unfold lastE; rw [if_pos h5]; omega
   · unfold lastE; rw [if_pos h5]; omega
 · rename_i h5
   split at he
   · omega
   rename_i h6
   have hi := rdgE_zero (Classical.not_not.1 h6)
   split at he
   · omega
   refine ⟨⟨ho.1, ?_, ?_⟩, fun q => Classical.byContradiction fun q2 => h4 ⟨q, q2⟩, fun q => absurd q h5⟩
   · unfold lastE; rw [if_neg h5]; omega
   · unfold lastE; rw [if_neg h5]; omega
theorem lgSeq_of {h : Hir} (he : hirE h = 0) : lgSeq h.legs := by
 have hall : ∀ i, i < h.legs.length → legE h i = 0 := by
  unfold hirE at he
  split at he
  · omega
  split at he
  · omega
  split at he
  · omega
  split at he
  · omega
  exact firstAt_all he
 refine ⟨fun x hx => ?_, fun i j hij hj => ?_⟩
 · obtain ⟨i, hi, rfl⟩ := mem_getD (d := lg0) hx
   exact (legE_zero (hall i hi)).1
 · have next : ∀ k, k + 1 < h.legs.length → lastE (h.legs.getD k lg0) = (h.legs.getD (k + 1) lg0).out.tm := fun k hk => by
    have h1 := (legE_zero (hall (k + 1) hk)).2.1 (by omega)
    rw [Nat.add_sub_cancel] at h1
    have h2 : (h.legs.getD k lg0).inn.tm ≠ -1 := fun q => by
     have := (legE_zero (hall k (by omega))).2.2 q
     omega
    unfold lastE; rw [if_neg h2, h1]
   induction j with
   | zero => omega
   | succ j ih =>
     rcases Nat.lt_or_ge i j with q | q
     · have h1 := ih q (by omega)
       have h2 := (legE_zero (hall j (by omega))).1
       have h3 := next j hj
       omega
     · have : i = j := by omega
       subst this
       rw [next i hj]; exact Int.le_refl _
def occK (v : List UInt8) (ls : List Leg) (k : Nat) (t : Int) : Bool := (ls.take k).any fun x => onL v x t
theorem occK_succ {v : List UInt8} {ls : List Leg} {k : Nat} (hk : k < ls.length) (t : Int) : occK v ls (k + 1) t = (occK v ls k t || onL v (ls.getD k lg0) t) := by
 unfold occK
 rw [take_snocD (d := lg0) hk, List.any_append]; simp
theorem occK_all (v : List UInt8) (h : Hir) (t : Int) : occK v h.legs h.legs.length t = occ v h t := by
 unfold occK occ; rw [List.take_length]
open Classical in
def oTHiF70_15 : List (Nat × List Nat) := [(0, []), (1, []), (2, [0, 1]), (3, [0, 1, 2]), (4, [0, 1, 2]), (5, [0, 1, 2]), (6, [0, 1]), (7, []), (8, [])]
def oTHiF70_18 : List (Nat × List Nat) := [(0, []), (1, []), (2, [0, 1]), (3, [0, 1, 2]), (4, [0, 1, 2]), (5, [0, 1, 2]), (6, [0, 1]), (7, []), (8, [])]
def oTHiF70_6 : List (Nat × List Nat) := [(0, []), (1, []), (2, [0, 1]), (3, [0, 1, 2]), (4, [0, 1, 2]), (5, [0, 1, 2]), (6, [0, 1]), (7, []), (8, [])]
set_option maxHeartbeats 4000000 in
theorem sHir (n : Nat) (L : Nat → Int) (hL : Rok n L) (a : Int) (h0 : 0 ≤ a) (ha : a ≤ 2^36) :
 FSpec Tryz.prog 70 [.ptr 1000000 0] [(1000000, strm n L a)] (fun y r => (∃ h : Hir, hiB 3 h ∧ y = .agg ((hiF h).map .d)) ∧ Moved n L a 500 r) := by
 refine spec_of hT (C := []) Tryz.func70 rfl Tryz.call70 rfl rfl rfl ?_
 conv => whnf
 repeat' (first | (refine CallX.of (s33 n L hL _ ?_ ?_ [0, 100, 1440] ?_ ?_) [(1000000, 1000000)] rfl ⟨lr, SV.le_lit rfl rfl, trivial⟩ ⟨rr, trivial⟩ rfl rfl ?_; rotate_right; rintro x rout ⟨⟨u1, hu1, rfl⟩, ⟨c, c1, c2, rfl⟩⟩; have hw1 := pkD hu1 (by decide); refine ⟨rfl, ?_⟩; conv => whnf) | (refine CallX.of (sRh n L hL _ ?_ ?_ [104, 49] (by decide) u1 hw1.1 ?_) [(1000000, 1000000)] rfl ⟨lr, lr, lr, trivial⟩ ⟨rr, trivial⟩ rfl rfl ?_; rotate_right; rintro x rout ⟨⟨h, hh, hhl, rfl⟩, ⟨c, c1, c2, rfl⟩⟩; refine ⟨rfl, ?_⟩; conv => whnf) | (refine CallX.of (s84 n L hL _ ?_ ?_ _ ?_) [(1000000, 1000000)] rfl ⟨lr, lr, trivial⟩ ⟨rr, trivial⟩ rfl rfl ?_; rotate_right; rintro x rout ⟨⟨w, rfl⟩, ⟨c, c1, c2, rfl⟩⟩; refine ⟨rfl, ?_⟩; conv => whnf) | (refine br_intro ?_ ?_ <;> intro hb <;> (try simp only [brs] at hb) <;> conv => whnf) | (refine RegX.rule (id := 15) hT rfl [] oTHiF70_15 (by decide +kernel) ?_; conv => whnf) | (refine RegX.rule (id := 18) hT rfl [] oTHiF70_18 (by decide +kernel) ?_; conv => whnf) | (refine RegX.rule (id := 6) hT rfl [] oTHiF70_6 (by decide +kernel) ?_; conv => whnf) | omega | (refine And.intro ?_ ?_; ((try dsimp only); first | omega | (refine szA rfl ?_; omega) | (refine szB rfl ?_; omega) | (unfold inI64; omega) | (simp only [lns] at *; omega) | decide | (unfold inI64; decide)); conv => whnf) | decide | assumption)
 · refine .ret _ ?_
   conv => whnf
   exact ⟨[(1000000, strm n L _)], ⟨⟨h, hh, rfl⟩, _, by omega, by omega, rfl⟩, rr, trivial⟩
 have hn : 1 ≤ h.legs.length := hhl (by decide)
 have hl3 := hh.2.2.1
 refine CallX.of (z216 h.legs hn (by omega)) [(7, 30)] rfl ⟨lr, trivial⟩ trivial rfl rfl ?_
 rintro x rout ⟨rfl, rfl⟩
 refine ⟨rfl, ?_⟩
 conv => whnf
 repeat' (first | (refine CallX.of (s86 n L hL _ ?_ ?_ 6 ?_) [(1000000, 1000000)] rfl ⟨lr, lr, trivial⟩ ⟨rr, trivial⟩ rfl rfl ?_; rotate_right; rintro x rout ⟨⟨z, hz1, hz2, hz3, rfl⟩, ⟨c, c1, c2, rfl⟩⟩; refine ⟨rfl, ?_⟩; conv => whnf) | (refine br_intro ?_ ?_ <;> intro hb <;> (try simp only [brs] at hb) <;> conv => whnf) | (refine RegX.rule (id := 15) hT rfl [] oTHiF70_15 (by decide +kernel) ?_; conv => whnf) | (refine RegX.rule (id := 18) hT rfl [] oTHiF70_18 (by decide +kernel) ?_; conv => whnf) | (refine RegX.rule (id := 6) hT rfl [] oTHiF70_6 (by decide +kernel) ?_; conv => whnf) | omega | (refine And.intro ?_ ?_; ((try dsimp only); first | omega | (refine szA rfl ?_; omega) | (refine szB rfl ?_; omega) | (unfold inI64; omega) | (simp only [lns] at *; omega) | decide | (unfold inI64; decide)); conv => whnf) | decide | assumption)
 · repeat' (first | (refine CallX.of (s15 n L hL _ ?_ ?_ [[104, 49], [], [65]] (by simp) (by simp)) [(1000000, 1000000)] rfl ⟨lr, SV.le_lit rfl rfl, trivial⟩ ⟨rr, trivial⟩ rfl rfl ?_; rotate_right; rintro x rout ⟨⟨u2, hu2, rfl⟩, ⟨c, c1, c2, rfl⟩⟩; have hw2 := mem_len hu2 rfl; refine ⟨rfl, ?_⟩; conv => whnf) | (refine CallX.of (s15 n L hL _ ?_ ?_ [[97, 110, 110], []] (by simp) (by simp)) [(1000000, 1000000)] rfl ⟨lr, SV.le_lit rfl rfl, trivial⟩ ⟨rr, trivial⟩ rfl rfl ?_; rotate_right; rintro x rout ⟨⟨u3, hu3, rfl⟩, ⟨c, c1, c2, rfl⟩⟩; have hw3 := mem_len hu3 rfl; refine ⟨rfl, ?_⟩; conv => whnf) | (refine br_intro ?_ ?_ <;> intro hb <;> (try simp only [brs] at hb) <;> conv => whnf) | (refine RegX.rule (id := 15) hT rfl [] oTHiF70_15 (by decide +kernel) ?_; conv => whnf) | (refine RegX.rule (id := 18) hT rfl [] oTHiF70_18 (by decide +kernel) ?_; conv => whnf) | (refine RegX.rule (id := 6) hT rfl [] oTHiF70_6 (by decide +kernel) ?_; conv => whnf) | omega | (refine And.intro ?_ ?_; ((try dsimp only); first | omega | (refine szA rfl ?_; omega) | (refine szB rfl ?_; omega) | (unfold inI64; omega) | (simp only [lns] at *; omega) | decide | (unfold inI64; decide)); conv => whnf) | decide | assumption)
   refine .freeze _ 30 162 9 _ _ rfl (.ent _ _ (Entails.froCell 2 30 9 _ 4 _ rfl rfl rfl) (.weak _ ?_))
   conv => whnf
   exact ⟨_, [(1000000, strm n L _)], lr, ⟨⟨⟨u2, u3, h.frm, h.to, h.legs⟩, ⟨hw2, hw3, hl3, hh.2.2.2⟩, rfl⟩, _, by omega, by omega, rfl⟩, rr, trivial⟩
 · repeat' (first | (refine CallX.of (sTim n L hL _ ?_ ?_) [(1000000, 1000000)] rfl ⟨lr, trivial⟩ ⟨rr, trivial⟩ rfl rfl ?_; rotate_right; rintro x rout ⟨⟨t1, t2, rfl⟩, ⟨c3, c4, c5, rfl⟩⟩; refine ⟨rfl, ?_⟩; conv => whnf) | (refine br_intro ?_ ?_ <;> intro hb <;> (try simp only [brs] at hb) <;> conv => whnf) | (refine RegX.rule (id := 15) hT rfl [] oTHiF70_15 (by decide +kernel) ?_; conv => whnf) | (refine RegX.rule (id := 18) hT rfl [] oTHiF70_18 (by decide +kernel) ?_; conv => whnf) | (refine RegX.rule (id := 6) hT rfl [] oTHiF70_6 (by decide +kernel) ?_; conv => whnf) | omega | (refine And.intro ?_ ?_; ((try dsimp only); first | omega | (refine szA rfl ?_; omega) | (refine szB rfl ?_; omega) | (unfold inI64; omega) | (simp only [lns] at *; omega) | decide | (unfold inI64; decide)); conv => whnf) | decide | assumption)
   refine .freeze _ 30 162 9 _ _ rfl (.ent _ _ (Entails.froCell 2 30 9 _ 4 _ rfl rfl rfl) (.weak _ ?_))
   conv => whnf
   exact ⟨_, [(1000000, strm n L _)], lr, ⟨⟨⟨h.key, h.drv, t1, t2, h.legs⟩, ⟨hh.1, hh.2.1, hl3, hh.2.2.2⟩, rfl⟩, _, by omega, by omega, rfl⟩, rr, trivial⟩
 · refine .weak _ ?_
   conv => whnf
   exact ⟨.agg ((hiF ⟨h.key, h.drv, h.frm, h.to, []⟩).map .d), [(1000000, strm n L _)], SV.le_agg ⟨lr, lr, lr, lr, SV.le_nilS, trivial⟩, ⟨⟨⟨h.key, h.drv, h.frm, h.to, []⟩, ⟨hh.1, hh.2.1, by simp, fun x hx => by cases hx⟩, rfl⟩, _, by omega, by omega, rfl⟩, rr, trivial⟩
 · repeat' (first | (refine CallX.of (s86 n L hL _ ?_ ?_ _ ?_) [(1000000, 1000000)] rfl ⟨lr, lr, trivial⟩ ⟨rr, trivial⟩ rfl rfl ?_; rotate_right; rintro x rout ⟨⟨j, hj1, hj2, hj3, rfl⟩, ⟨c, c1, c2, rfl⟩⟩; refine ⟨rfl, ?_⟩; conv => whnf) | (refine CallX.of (s15 n L hL _ ?_ ?_ [[118, 49], [], [65]] (by simp) (by simp)) [(1000000, 1000000)] rfl ⟨lr, SV.le_lit rfl rfl, trivial⟩ ⟨rr, trivial⟩ rfl rfl ?_; rotate_right; rintro x rout ⟨⟨u2, hu2, rfl⟩, ⟨c, c1, c2, rfl⟩⟩; have hw2 := mem_len hu2 rfl; refine ⟨rfl, ?_⟩; conv => whnf) | (refine CallX.of (s104 n L hL _ ?_ ?_ 0 500 ?_ ?_ ?_) [(1000000, 1000000)] rfl ⟨lr, lr, lr, trivial⟩ ⟨rr, trivial⟩ rfl rfl ?_; rotate_right; rintro x rout ⟨⟨u3, hk1, hk2, rfl⟩, ⟨c, c1, c2, rfl⟩⟩; refine ⟨rfl, ?_⟩; conv => whnf) | (refine br_intro ?_ ?_ <;> intro hb <;> (try simp only [brs] at hb) <;> conv => whnf) | (refine RegX.rule (id := 15) hT rfl [] oTHiF70_15 (by decide +kernel) ?_; conv => whnf) | (refine RegX.rule (id := 18) hT rfl [] oTHiF70_18 (by decide +kernel) ?_; conv => whnf) | (refine RegX.rule (id := 6) hT rfl [] oTHiF70_6 (by decide +kernel) ?_; conv => whnf) | omega | (refine And.intro ?_ ?_; ((try dsimp only); first | omega | (refine szA rfl ?_; omega) | (refine szB rfl ?_; omega) | (unfold inI64; omega) | (simp only [lns] at *; omega) | decide | (unfold inI64; decide)); conv => whnf) | decide | assumption)
   refine .freeze _ 30 162 9 _ _ rfl (.ent _ _ (Entails.froCell 2 30 9 _ 4 _ rfl rfl rfl) (.weak _ ?_))
   conv => whnf
   exact ⟨.agg ((hiF ⟨h.key, h.drv, h.frm, h.to, updL (updL h.legs j.toNat lg0 (fun y => { y with veh := u2 })) j.toNat lg0 (fun y => { y with out := { y.out with tm := u3 } })⟩).map .d), [(1000000, strm n L _)],
    SV.le_agg ⟨lr, lr, lr, lr, SV.le_upd2 (f := lgF) (d := lg0) (fun y : Leg => { y with veh := u2 }) (fun y => { y with out := { y.out with tm := u3 } }) (fun _ => rfl) (fun _ => rfl), trivial⟩,
    ⟨⟨⟨h.key, h.drv, h.frm, h.to, updL (updL h.legs j.toNat lg0 (fun y => { y with veh := u2 })) j.toNat lg0 (fun y => { y with out := { y.out with tm := u3 } })⟩, ⟨hh.1, hh.2.1, (by simp; omega), (allK_upd (g := fun y : Leg => { y with out := { y.out with tm := u3 } }) (allK_upd (g := fun y : Leg => { y with veh := u2 }) (k := 3) ⟨hl3, hh.2.2.2⟩ (fun y hy => ⟨hw2, hy.2.1, hy.2.2⟩)) (fun y hy => ⟨hy.1, hy.2.1, hy.2.2⟩)).2⟩, rfl⟩, _, by omega, by omega, rfl⟩, rr, trivial⟩
 · repeat' (first | (refine CallX.of (s86 n L hL _ ?_ ?_ _ ?_) [(1000000, 1000000)] rfl ⟨lr, lr, trivial⟩ ⟨rr, trivial⟩ rfl rfl ?_; rotate_right; rintro x rout ⟨⟨j, hj1, hj2, hj3, rfl⟩, ⟨c, c1, c2, rfl⟩⟩; refine ⟨rfl, ?_⟩; conv => whnf) | (refine CallX.of (s33 n L hL _ ?_ ?_ [-1, 0, 100, 5000] ?_ ?_) [(1000000, 1000000)] rfl ⟨lr, SV.le_lit rfl rfl, trivial⟩ ⟨rr, trivial⟩ rfl rfl ?_; rotate_right; rintro x rout ⟨⟨u2, hu2, rfl⟩, ⟨c, c1, c2, rfl⟩⟩; have hw2 : -1 ≤ u2 ∧ u2 ≤ 5000 := (by simp at hu2; omega); refine ⟨rfl, ?_⟩; conv => whnf) | (refine CallX.of (sRdg n L hL _ ?_ ?_ u2 ?_ ?_) [(1000000, 1000000)] rfl ⟨lr, lr, trivial⟩ ⟨rr, trivial⟩ rfl rfl ?_; rotate_right; rintro x rout ⟨⟨ri, hri, rfl⟩, ⟨c3, c4, c5, rfl⟩⟩; refine ⟨rfl, ?_⟩; conv => whnf) | (refine br_intro ?_ ?_ <;> intro hb <;> (try simp only [brs] at hb) <;> conv => whnf) | (refine RegX.rule (id := 15) hT rfl [] oTHiF70_15 (by decide +kernel) ?_; conv => whnf) | (refine RegX.rule (id := 18) hT rfl [] oTHiF70_18 (by decide +kernel) ?_; conv => whnf) | (refine RegX.rule (id := 6) hT rfl [] oTHiF70_6 (by decide +kernel) ?_; conv => whnf) | omega | (refine And.intro ?_ ?_; ((try dsimp only); first | omega | (refine szA rfl ?_; omega) | (refine szB rfl ?_; omega) | (unfold inI64; omega) | (simp only [lns] at *; omega) | decide | (unfold inI64; decide)); conv => whnf) | decide | assumption)
   refine .freeze _ 30 162 9 _ _ rfl (.ent _ _ (Entails.froCell 2 30 9 _ 4 _ rfl rfl rfl) (.weak _ ?_))
   conv => whnf
   exact ⟨.agg ((hiF ⟨h.key, h.drv, h.frm, h.to, updL h.legs j.toNat lg0 (fun y => { y with inn := ri })⟩).map .d), [(1000000, strm n L _)],
    SV.le_agg ⟨lr, lr, lr, lr, SV.le_ro (by simp) (fun i hi => rows_updG (f := lgF) (d := lg0) (fun _ _ => rfl) (fun y : Leg => { y with inn := ri }) (fun _ => rfl) i (by simpa using hi)), trivial⟩,
    ⟨⟨⟨h.key, h.drv, h.frm, h.to, updL h.legs j.toNat lg0 (fun y => { y with inn := ri })⟩, ⟨hh.1, hh.2.1, (by simp; omega), (allK_upd (g := fun y : Leg => { y with inn := ri }) (k := 3) ⟨hl3, hh.2.2.2⟩ (fun y hy => ⟨hy.1, hy.2.1, hri⟩)).2⟩, rfl⟩, _, by omega, by omega, rfl⟩, rr, trivial⟩
 · repeat' (first | (refine CallX.of (s86 n L hL _ ?_ ?_ _ ?_) [(1000000, 1000000)] rfl ⟨lr, lr, trivial⟩ ⟨rr, trivial⟩ rfl rfl ?_; rotate_right; rintro x rout ⟨⟨j, hj1, hj2, hj3, rfl⟩, ⟨c, c1, c2, rfl⟩⟩; refine ⟨rfl, ?_⟩; conv => whnf) | (refine CallX.of (s33 n L hL _ ?_ ?_ [0, 0, 1] ?_ ?_) [(1000000, 1000000)] rfl ⟨lr, SV.le_lit rfl rfl, trivial⟩ ⟨rr, trivial⟩ rfl rfl ?_; rotate_right; rintro x rout ⟨⟨u2, hu2, rfl⟩, ⟨c, c1, c2, rfl⟩⟩; refine ⟨rfl, ?_⟩; conv => whnf) | (refine br_intro ?_ ?_ <;> intro hb <;> (try simp only [brs] at hb) <;> conv => whnf) | (refine RegX.rule (id := 15) hT rfl [] oTHiF70_15 (by decide +kernel) ?_; conv => whnf) | (refine RegX.rule (id := 18) hT rfl [] oTHiF70_18 (by decide +kernel) ?_; conv => whnf) | (refine RegX.rule (id := 6) hT rfl [] oTHiF70_6 (by decide +kernel) ?_; conv => whnf) | omega | (refine And.intro ?_ ?_; ((try dsimp only); first | omega | (refine szA rfl ?_; omega) | (refine szB rfl ?_; omega) | (unfold inI64; omega) | (simp only [lns] at *; omega) | decide | (unfold inI64; decide)); conv => whnf) | decide | assumption)
   refine .freeze _ 30 162 9 _ _ rfl (.ent _ _ (Entails.froCell 2 30 9 _ 4 _ rfl rfl rfl) (.weak _ ?_))
   conv => whnf
   exact ⟨.agg ((hiF ⟨h.key, h.drv, h.frm, h.to, updL h.legs j.toNat lg0 (fun y => { y with inn := ⟨-1, [], u2, 0⟩ })⟩).map .d), [(1000000, strm n L _)],
    SV.le_agg ⟨lr, lr, lr, lr, SV.le_ro (by simp) (fun i hi => rows_updG (f := lgF) (d := lg0) (fun _ _ => rfl) (fun y : Leg => { y with inn := ⟨-1, [], u2, 0⟩ }) (fun _ => rfl) i (by simpa using hi)), trivial⟩,
    ⟨⟨⟨h.key, h.drv, h.frm, h.to, updL h.legs j.toNat lg0 (fun y => { y with inn := ⟨-1, [], u2, 0⟩ })⟩, ⟨hh.1, hh.2.1, (by simp; omega), (allK_upd (g := fun y : Leg => { y with inn := ⟨-1, [], u2, 0⟩ }) (k := 3) ⟨hl3, hh.2.2.2⟩ (fun y hy => ⟨hy.1, hy.2.1, by simp [rgB]⟩)).2⟩, rfl⟩, _, by omega, by omega, rfl⟩, rr, trivial⟩
def k4 : List (List UInt8) := [[104, 49], [104, 50], [104, 51], [104, 52]]
set_option maxHeartbeats 4000000 in
theorem sHirs (n : Nat) (L : Nat → Int) (hL : Rok n L) (a : Int) (h0 : 0 ≤ a) (ha : a ≤ 2^35) (m : Int) (hm0 : 0 ≤ m) (hm : m ≤ 4) :
 FSpec Tryz.prog 11 [.ptr 1000000 0, .d (.int .i64 m)] [(1000000, strm n L a)] (fun y r => (∃ l : List Hir, allK (hiB 3) 5 l ∧ y = .d (hirs l)) ∧ Moved n L a 3000 r) := by
 refine spec_of hT (C := []) Tryz.func11 rfl Tryz.call11 rfl rfl rfl ?_
 conv => whnf
 repeat' (first | (refine And.intro (show (0 : Int) ≤ 0 ∧ 0 ≤ min m 4 ∧ min m 4 ≤ ((4 : Nat) : Int) from by omega) ?_; conv => whnf) | (refine br_intro ?_ ?_ <;> intro hb <;> (try simp only [brs] at hb) <;> conv => whnf) | omega | (refine And.intro ?_ ?_; ((try dsimp only); first | omega | (refine szA rfl ?_; omega) | (refine szB rfl ?_; omega) | (unfold inI64; omega) | (simp only [lns] at *; omega) | decide | (unfold inI64; decide)); conv => whnf) | decide | assumption)
 refine LoopX.rule hT (C := []) (ι := Int × List Hir × Nat) (fun (b, l, i) => (a ≤ b ∧ b ≤ a + 500 * i ∧ (i : Int) ≤ m) ∧ allK (hiB 3) i l)
  (fun (b, l, i) => mkSt [(0, .ptr 1000000 0), (5, .buf 5), (11, .d (strs (k4.take m.toNat))), (12, .d (.int .i64 m)), (13, .d (.int .i64 i))] [(1000000, strm n L b), (5, seqB 130 5 hiF hi0 l)])
  (fun (_, _, i) => (m - i).toNat) (a, [], 0) ⟨⟨by simp, by simp, by simpa using hm0⟩, ⟨by simp, by simp⟩⟩ ?_ ?_
 · refine (Entails.nil 5 5 130 5 (rowF hiF hi0 []) rfl rfl (by decide)).trans (Entails.mk' [(1000000, 1000000), (5, 5)] rfl rfl ⟨lr, lr, ?_, SV.le_int (by first | omega | (show (((min m 4 - 0).toNat : Nat) : Int) = m; omega) | (show ((min m 4).toNat : Int) = m; omega)), lr, trivial⟩ ⟨rr, rr, trivial⟩)
   have h4 : (k4.take m.toNat).length = m.toNat := by rw [List.length_take]; show min m.toNat 4 = _; omega
   have hm4 : (min m 4 - 0).toNat = m.toNat := by omega
   refine SV.le_ro (by rw [h4]; first | exact hm4 | omega) (fun i hi => ?_)
   have hi : i < m.toNat := by first | omega | (rw [← hm4]; exact hi)
   have hk : rowF sF [] (k4.take m.toNat) i = rowF sF [] k4 i := by
    simp only [rowF]
    rw [List.getD_eq_getElem?_getD, List.getElem?_take_of_lt hi, ← List.getD_eq_getElem?_getD]
   rw [hk]
   have : i = 0 ∨ i = 1 ∨ i = 2 ∨ i = 3 := by omega
   rcases this with rfl | rfl | rfl | rfl <;> rfl
 rintro ⟨b, l, i⟩ ⟨⟨p1, p2, p3⟩, p4⟩
 have p1 : a ≤ b := p1
 have p2 : b ≤ a + 500 * i := p2
 have p3 : (i : Int) ≤ m := p3
 have p4 : allK (hiB 3) i l := p4
 have hl1 := p4.1
 have h4 : (k4.take m.toNat).length = m.toNat := by rw [List.length_take]; show min m.toNat 4 = _; omega
 have hkl : ((k4.take m.toNat).getD (i : Int).toNat []).length ≤ 8 := by
  by_cases q : (i : Int).toNat < (k4.take m.toNat).length
  · have := List.mem_of_mem_take (getD_mem (x := []) q)
    exact mem_len this rfl
  · rw [List.getD_eq_getElem?_getD, List.getElem?_eq_none (by omega)]; simp
 conv => whnf
 repeat' (first | (refine CallX.of (s33 n L hL _ ?_ ?_ [0, 50, 100, 100, 300, 1000] ?_ ?_) [(1000000, 1000000)] rfl ⟨lr, SV.le_lit rfl rfl, trivial⟩ ⟨rr, trivial⟩ rfl rfl ?_; rotate_right; rintro x rout ⟨⟨u1, hu1, rfl⟩, ⟨c, c1, c2, rfl⟩⟩; have hw1 := pkD hu1 (by decide); refine ⟨rfl, ?_⟩; conv => whnf) | (refine CallX.of (sRh n L hL _ ?_ ?_ ((k4.take m.toNat).getD (i : Int).toNat []) hkl u1 hw1.1 ?_) [(1000000, 1000000)] rfl ⟨lr, lr, lr, trivial⟩ ⟨rr, trivial⟩ rfl rfl ?_; rotate_right; rintro x rout ⟨⟨h, hh, hhl, rfl⟩, ⟨c, c1, c2, rfl⟩⟩; refine ⟨rfl, ?_⟩; conv => whnf) | (refine br_intro ?_ ?_ <;> intro hb <;> (try simp only [brs] at hb) <;> conv => whnf) | omega | (refine And.intro ?_ ?_; ((try dsimp only); first | omega | (refine szA rfl ?_; omega) | (refine szB rfl ?_; omega) | (unfold inI64; omega) | (simp only [lns] at *; omega) | decide | (unfold inI64; decide)); conv => whnf) | decide | assumption)
 · refine ⟨(_, l ++ [h], i + 1), ⟨⟨by omega, ?_, by omega⟩, allK_snoc p4 (by omega) hh⟩, (show (m - ((i + 1 : Nat) : Int)).toNat < (m - (i : Int)).toNat by omega), Entails.mk' [(1000000, 1000000), (5, 25)] rfl rfl ⟨lr, lr, lr, lr, lr, trivial⟩ ⟨rr, Res.le_snocF rfl, trivial⟩⟩
   show _ ≤ a + 500 * ((i + 1 : Nat) : Int)
   omega
 repeat' (first | (refine CallX.of (s84 n L hL _ ?_ ?_ _ ?_) [(1000000, 1000000)] rfl ⟨lr, lr, trivial⟩ ⟨rr, trivial⟩ rfl rfl ?_; rotate_right; rintro x rout ⟨⟨w, rfl⟩, ⟨c, c1, c2, rfl⟩⟩; refine ⟨rfl, ?_⟩; conv => whnf) | (refine CallX.of (sHir n L hL _ ?_ ?_) [(1000000, 1000000)] rfl ⟨lr, trivial⟩ ⟨rr, trivial⟩ rfl rfl ?_; rotate_right; rintro x rout ⟨⟨h, hh, rfl⟩, ⟨c, c1, c2, rfl⟩⟩; refine ⟨rfl, ?_⟩; conv => whnf) | (refine br_intro ?_ ?_ <;> intro hb <;> (try simp only [brs] at hb) <;> conv => whnf) | omega | (refine And.intro ?_ ?_; ((try dsimp only); first | omega | (refine szA rfl ?_; omega) | (refine szB rfl ?_; omega) | (unfold inI64; omega) | (simp only [lns] at *; omega) | decide | (unfold inI64; decide)); conv => whnf) | decide | assumption)
 · refine .freeze _ 33 130 5 _ _ rfl (.weak _ ?_)
   conv => whnf
   exact ⟨_, [(1000000, strm n L _)], SV.le_snocF rfl, ⟨⟨l ++ [h], allK_snoc (allK_le p4 (by omega : i ≤ 4)) (by omega) hh, rfl⟩, _, by omega, by omega, rfl⟩, rr, trivial⟩
 · refine .freeze _ 5 130 5 _ _ rfl (.weak _ ?_)
   conv => whnf
   exact ⟨_, [(1000000, strm n L _)], lr, ⟨⟨l, allK_le p4 (by omega), rfl⟩, _, by omega, by omega, rfl⟩, rr, trivial⟩
open Classical in
theorem hirs_seq {l : List Hir} (h : hirsE l = 0) : (∀ g ∈ l, hirE g = 0) ∧ ∀ i, 0 < i → i < l.length → strLe (l.getD i hi0).key (l.getD (i - 1) hi0).key = false := by
 unfold hirsE at h
 split at h
 · omega
 have hall := firstAt_all h
 refine ⟨fun g hg => ?_, fun i h0 hi => ?_⟩
 · obtain ⟨i, hi, rfl⟩ := mem_getD (d := hi0) hg
   have := hall i hi
   unfold hirsE1 at this
   split at this
   · omega
   · rename_i q; exact Classical.not_not.1 q
 · have := hall i hi
   unfold hirsE1 at this
   split at this
   · omega
   · split at this
     · omega
     · rename_i q
       cases e : strLe (l.getD i hi0).key (l.getD (i - 1) hi0).key with
       | false => rfl
       | true => exact absurd ⟨h0, e⟩ q
end Go.Proofs.YtcjfniddeibbhaaGreatDoor
namespace Go.Proofs
open Go.Shelf
def Tryz.lays106_ren : Go.Shelf.Ren := ⟨fun | 106 => 106 | 213 => 171 | 265 => 238 | n => n, fun | 9 => 9 | 3 => 3 | n => n, fun | n => n⟩
theorem Tryz.lays106 : Go.Proofs.Lays.n106 Tryz.prog Tryz.lays106_ren := {
 mixed := by kernel_rfl
 f106 := Tryz.func106.trans (congrArg some (by kernel_rfl))
 f213 := Tryz.func171.trans (congrArg some (by kernel_rfl))
 f265 := Tryz.func238.trans (congrArg some (by kernel_rfl))
 t3 := Tryz.underlying3
 a3 := Tryz.isAgg3
 z3 := Tryz.sizeOf3
 v3 := Tryz.zeroValue3
 t9 := Tryz.underlying9
 a9 := Tryz.isAgg9
 z9 := Tryz.sizeOf9
 v9 := Tryz.zeroValue9 }
end Go.Proofs
set_option maxRecDepth 20000
namespace Go.Proofs.YtcjfniddeibbhaaGreatDoor
open Go Go.Eng Go.RowKit
theorem cmpB_S : ∀ (a b : List UInt8), Lib.compareBytes a b = cmpS a b := by
 intro a
 induction a with
 | nil => intro b; cases b <;> simp [Lib.compareBytes, cmpS, Op.bytesLess]
 | cons x a ih =>
   intro b
   cases b with
   | nil => simp [Lib.compareBytes, cmpS, Op.bytesLess]
   | cons y b =>
     have := ih b
     unfold cmpS at this ⊢
     simp only [Lib.compareBytes, Op.bytesLess]
     grind
theorem s190 (a b : List UInt8) : FSpec Tryz.prog 106 [.d (.str a), .d (.str b)] [] (fun x r => x = .d (.int .i64 (cmpS a b)) ∧ r = []) := by
 refine FSpec.ofBelow Tryz.call106 (fun G β w vs _ hl hd => ?_)
 match vs, hl with
 | [u, v], _ =>
   have hu := hd 0 _ _ rfl rfl
   have hv := hd 1 _ _ rfl rfl
   cases hu with | d _ _ hu => cases hu with | str _ =>
   cases hv with | d _ _ hv => cases hv with | str _ =>
   refine ⟨.int .i64 (Lib.compareBytes a b), fun G β => ?_, (Go.Proofs.Any.strings_Compare Go.Proofs.Tryz.lays106 ⟨a.toArray⟩ ⟨b.toArray⟩ w).mono ?_⟩
   · rw [← cmpB_S]; exact .d _ _ (.int _ _)
   · rintro e w' ⟨he, rfl⟩
     exact ⟨he, Below.refl _ _⟩
theorem z101 (x : Leg) : FSpec Tryz.prog 101 [.agg ((lgF x).map .d)] [] (fun y r => y = .agg [.d (.int .i64 x.out.tm), .d (.int .i64 (lastE x))] ∧ r = []) := by
 refine spec_of hT (C := []) Tryz.func101 rfl Tryz.call101 rfl rfl rfl ?_
 conv => whnf
 repeat' (first | (refine br_intro ?_ ?_ <;> intro hb <;> (try simp only [brs] at hb) <;> conv => whnf) | omega | (refine And.intro ?_ ?_; ((try dsimp only); first | omega | (refine szA rfl ?_; omega) | (refine szB rfl ?_; omega) | (unfold inI64; omega) | (simp only [lns] at *; omega) | decide | (unfold inI64; decide)); conv => whnf) | decide | assumption)
 all_goals
  refine .ret _ ?_
  conv => whnf
  refine ⟨[], ⟨?_, rfl⟩, trivial⟩
  conv => lhs; whnf
  unfold lastE
  first
   | (rw [if_pos hb]; rfl)
   | (rw [if_neg hb]; rfl)
def withK (v : List UInt8) (l : List Hir) (t : Int) : List UInt8 × Bool := match l.find? (fun h => occ v h t) with | some h => (h.key, true) | none => ([], false)
theorem withK_no {v : List UInt8} {l : List Hir} {t : Int} (h : ∀ j, j < l.length → occ v (l.getD j hi0) t = false) : withK v l t = ([], false) := by
 unfold withK
 have : l.find? (fun h => occ v h t) = none := by
  rw [List.find?_eq_none]
  intro x hx
  obtain ⟨j, hj, rfl⟩ := mem_getD (d := hi0) hx
  rw [h j hj]; simp
 rw [this]
theorem withK_yes {v : List UInt8} {l : List Hir} {t : Int} : ∀ {i : Nat}, i < l.length → (∀ j, j < i → occ v (l.getD j hi0) t = false) → occ v (l.getD i hi0) t = true → withK v l t = ((l.getD i hi0).key, true) := by
 induction l with
 | nil => intro i hi; simp at hi
 | cons x l ih =>
   intro i hi h ho
   cases i with
   | zero =>
     rw [List.getD_cons_zero] at ho ⊢
     unfold withK
     rw [List.find?_cons_of_pos (by simpa using ho)]
   | succ i =>
     have h0 := h 0 (by omega)
     rw [List.getD_cons_zero] at h0
     have := ih (i := i) (by simpa using hi) (fun j hj => by have := h (j + 1) (by omega); rwa [List.getD_cons_succ] at this) (by simpa using ho)
     unfold withK at this ⊢
     rw [List.find?_cons_of_neg (by simp [h0])]
     simpa using this
theorem occK_mono {v : List UInt8} {ls : List Leg} {k : Nat} {t : Int} (hk : k < ls.length) (h : onL v (ls.getD k lg0) t = true) : (ls.any fun x => onL v x t) = true := by
 rw [List.any_eq_true]; exact ⟨_, getD_mem hk, h⟩
set_option maxHeartbeats 2000000 in
theorem z103 (l : List Hir) (hl : l.length ≤ 2^40) (hs : ∀ h ∈ l, lgSeq h.legs) (hk : ∀ h ∈ l, h.legs.length ≤ 2^40) (v : List UInt8) (t : Int) :
 FSpec Tryz.prog 103 [.d (hirs l), .d (.str v), .d (.int .i64 t)] [] (fun y r => y = .tup [.d (.str (withK v l t).1), .d (.bool (withK v l t).2)] ∧ r = []) := by
 refine spec_of hT (C := []) Tryz.func103 rfl Tryz.call103 rfl rfl rfl ?_
 conv => whnf
 repeat' (first | (refine br_intro ?_ ?_ <;> intro hb <;> (try simp only [brs] at hb) <;> conv => whnf) | omega | (refine And.intro ?_ ?_; ((try dsimp only); first | omega | (refine szA rfl ?_; omega) | (refine szB rfl ?_; omega) | (unfold inI64; omega) | (simp only [lns] at *; omega) | decide | (unfold inI64; decide)); conv => whnf) | decide | assumption)
 refine LoopX.rule hT (C := []) (ι := Nat) (fun i => i ≤ l.length ∧ ∀ j, j < i → occ v (l.getD j hi0) t = false) (fun i => mkSt [(1, .d (.str v)), (2, .d (.int .i64 t)), (13, .d (hirs l)), (14, .d (.int .i64 l.length)), (15, .d (.int .i64 i))] []) (fun i => l.length - i) 0 ⟨by omega, by omega⟩ (by (refine Entails.mk' [] rfl rfl ?_ ?_ <;> repeat' (first | exact True.intro | exact lr | exact rr | exact SV.le_int (by omega) | exact SV.le_any _ | refine And.intro ?_ ?_)); done) ?_
 rintro i ⟨p1, p2⟩
 have e1 : (i : Int).toNat = i := Int.toNat_natCast i
 by_cases hi : i < l.length
 · have hh : l.getD (i : Int).toNat hi0 ∈ l := getD_mem (by omega)
   have hsq := hs _ hh
   have hlk := hk _ hh
   conv => whnf
   repeat' (first | (refine br_intro ?_ ?_ <;> intro hb <;> (try simp only [brs] at hb) <;> conv => whnf) | omega | (refine And.intro ?_ ?_; ((try dsimp only); first | omega | (refine szA rfl ?_; omega) | (refine szB rfl ?_; omega) | (unfold inI64; omega) | (simp only [lns] at *; omega) | decide | (unfold inI64; decide)); conv => whnf) | decide | assumption)
   · refine LoopX.rule hT (C := []) (ι := Nat) (fun k => k ≤ (l.getD (i : Int).toNat hi0).legs.length ∧ occK v (l.getD (i : Int).toNat hi0).legs k t = false)
      (fun k => mkSt [(1, .d (.str v)), (2, .d (.int .i64 t)), (9, .ptr 9 0), (13, .d (hirs l)), (14, .d (.int .i64 l.length)), (15, .d (.int .i64 i)), (20, .d (legs (l.getD (i : Int).toNat hi0).legs)), (21, .d (.int .i64 (l.getD (i : Int).toNat hi0).legs.length)), (22, .d (.int .i64 k))] [(9, hcell (l.getD (i : Int).toNat hi0))])
      (fun k => (l.getD (i : Int).toNat hi0).legs.length - k) 0 ⟨by omega, by simp [occK]⟩ (by (refine Entails.mk' [(9, 9)] rfl rfl ?_ ?_ <;> repeat' (first | exact True.intro | exact lr | exact rr | exact SV.le_int (by omega) | exact SV.le_any _ | refine And.intro ?_ ?_)); done) ?_
     rintro k ⟨q1, q2⟩
     have f1 : (k : Int).toNat = k := Int.toNat_natCast k
     by_cases hkk : k < (l.getD (i : Int).toNat hi0).legs.length
     all_goals have hkk' := hkk
     all_goals rw [e1] at hkk'
     · have hx := hsq.1 _ (getD_mem (x := lg0) (show (k : Int).toNat < (l.getD (i : Int).toNat hi0).legs.length by omega))
       have hon : onL v ((l.getD (i : Int).toNat hi0).legs.getD (k : Int).toNat lg0) t = (decide (((l.getD (i : Int).toNat hi0).legs.getD (k : Int).toNat lg0).veh = v) && (decide (((l.getD (i : Int).toNat hi0).legs.getD (k : Int).toNat lg0).out.tm ≤ t) && decide (t < lastE ((l.getD (i : Int).toNat hi0).legs.getD (k : Int).toNat lg0)))) := rfl
       have hsu := occK_succ (v := v) hkk t
       rw [q2, Bool.false_or, ← f1] at hsu
       conv => whnf
       repeat' (first | (refine CallX.exact (z101 ((l.getD (i : Int).toNat hi0).legs.getD (k : Int).toNat lg0)) rfl rfl ?_; rotate_right; conv => whnf) | (refine CallX.exact (s110 _ _ _) rfl rfl ?_; rotate_right; conv => whnf) | (refine br_intro ?_ ?_ <;> intro hb <;> (try simp only [brs] at hb) <;> conv => whnf) | omega | (refine And.intro ?_ ?_; ((try dsimp only); first | omega | (refine szA rfl ?_; omega) | (refine szB rfl ?_; omega) | (unfold inI64; omega) | (simp only [lns] at *; omega) | decide | (unfold inI64; decide)); conv => whnf) | decide | assumption)
       all_goals try (exfalso; omega)
       · have ho : onL v ((l.getD (i : Int).toNat hi0).legs.getD (k : Int).toNat lg0) t = true := by
          rw [hon]; simp only [e1, f1, Bool.and_eq_true, decide_eq_true_eq] at *
          exact ⟨by assumption, by omega, by omega⟩
         have hoc : occ v (l.getD i hi0) t = true := by rw [← e1]; exact occK_mono (by omega) ho
         refine .ret _ ?_
         conv => whnf
         refine ⟨[], ⟨congrArg SV.tup ?_, rfl⟩, trivial⟩
         repeat' (refine cons_eq ?_ ?_)
         all_goals (conv => lhs; whnf)
         all_goals try (with_reducible rfl)
         all_goals (rw [withK_yes hi p2 hoc]; try rw [e1])
       · have ho : onL v ((l.getD (i : Int).toNat hi0).legs.getD (k : Int).toNat lg0) t = false := by
          rw [hon, ← Bool.not_eq_true]; simp only [e1, f1, Bool.and_eq_true, decide_eq_true_eq] at *; omega
         rw [ho, f1] at hsu
         exact ⟨k + 1, ⟨by omega, hsu⟩, by omega, (by (refine Entails.mk' [(9, 9)] rfl rfl ?_ ?_ <;> repeat' (first | exact True.intro | exact lr | exact rr | exact SV.le_int (by omega) | exact SV.le_any _ | refine And.intro ?_ ?_)); done)⟩
       · have ho : onL v ((l.getD (i : Int).toNat hi0).legs.getD (k : Int).toNat lg0) t = false := by
          rw [hon, ← Bool.not_eq_true]; simp only [e1, f1, Bool.and_eq_true, decide_eq_true_eq] at *
          exact fun q => hb q.1
         rw [ho, f1] at hsu
         exact ⟨k + 1, ⟨by omega, hsu⟩, by omega, (by (refine Entails.mk' [(9, 9)] rfl rfl ?_ ?_ <;> repeat' (first | exact True.intro | exact lr | exact rr | exact SV.le_int (by omega) | exact SV.le_any _ | refine And.intro ?_ ?_)); done)⟩
     · have hkl : k = (l.getD (i : Int).toNat hi0).legs.length := by omega
       rw [hkl, occK_all, e1] at q2
       conv => whnf
       repeat' (first | (refine CallX.exact (z101 ((l.getD (i : Int).toNat hi0).legs.getD (k : Int).toNat lg0)) rfl rfl ?_; rotate_right; conv => whnf) | (refine CallX.exact (s110 _ _ _) rfl rfl ?_; rotate_right; conv => whnf) | (refine br_intro ?_ ?_ <;> intro hb <;> (try simp only [brs] at hb) <;> conv => whnf) | omega | (refine And.intro ?_ ?_; ((try dsimp only); first | omega | (refine szA rfl ?_; omega) | (refine szB rfl ?_; omega) | (unfold inI64; omega) | (simp only [lns] at *; omega) | decide | (unfold inI64; decide)); conv => whnf) | decide | assumption)
       all_goals try (exfalso; omega)
       exact ⟨i + 1, ⟨by omega, all_step p2 q2⟩, by omega, (by (refine Entails.mk' [] rfl rfl ?_ ?_ <;> repeat' (first | exact True.intro | exact lr | exact rr | exact SV.le_int (by omega) | exact SV.le_any _ | refine And.intro ?_ ?_)); done)⟩
 · conv => whnf
   repeat' (first | (refine br_intro ?_ ?_ <;> intro hb <;> (try simp only [brs] at hb) <;> conv => whnf) | omega | (refine And.intro ?_ ?_; ((try dsimp only); first | omega | (refine szA rfl ?_; omega) | (refine szB rfl ?_; omega) | (unfold inI64; omega) | (simp only [lns] at *; omega) | decide | (unfold inI64; decide)); conv => whnf) | decide | assumption)
   refine .ret _ ?_
   conv => whnf
   refine ⟨[], ⟨congrArg SV.tup ?_, rfl⟩, trivial⟩
   repeat' (refine cons_eq ?_ ?_)
   all_goals (conv => lhs; whnf)
   all_goals try (with_reducible rfl)
   all_goals
    rw [withK_no (fun j hj => p2 j (by omega))]
def mV (H : List UInt8 → Bool) (v : List UInt8 → DV) : Res := .map false false [.str] [.nilsl] (fun k => H (strK k)) (fun k => [v (strK k)])
def vF (l : List Hld) : DV := if l = [] then .nilsl else seqD 3 hldF hld0 l
abbrev mF (o : List UInt8 → List Hld) : Res := mV (fun p => !(o p).isEmpty) (fun p => vF (o p))
theorem vF_or (l : List Hld) : (vF l = .nilsl ∧ l = []) ∨ vF l = seqD 3 hldF hld0 l := by
 unfold vF
 by_cases h : l = []
 · rw [if_pos h]; exact .inl ⟨rfl, h⟩
 · rw [if_neg h]; exact .inr rfl
theorem le_froR (o : List UInt8 → List Hld) : Res.le (.map false false [.str] [.nilsl] (fun k => !(o (strK k)).isEmpty) (fun q => bif !(o (strK q)).isEmpty then [.ro 3 (o (strK q)).length (fun i => rowF hldF hld0 (o (strK q)) i)] else [.nilsl])) (mF o) :=
 Res.le_map fun k hk => ⟨rfl, by
  unfold vF
  cases h : o (strK k) with
  | nil => simp [h]
  | cons x l => simp [h]⟩
theorem z73 (f : Flt) (hl : f.plt.length ≤ 1000) (hs : srtP f.plt) (h : List Hir) : FSpec Tryz.prog 73 [flt f, .d (hirs h)] [] (fun y r => y = .agg [.mp 6, .d (hirs h)] ∧ r = [(6, mF (hend f.plt).out)]) := by
 refine spec_of hT (C := []) Tryz.func73 rfl Tryz.call73 rfl rfl rfl ?_
 conv => whnf
 refine CallX.of (z151 f hl hs) [(14, 6)] rfl ⟨lr, trivial⟩ trivial rfl rfl ?_
 rintro x rout ⟨rfl, rfl⟩
 refine ⟨rfl, ?_⟩
 conv => whnf
 repeat' (first | (refine br_intro ?_ ?_ <;> intro hb <;> (try simp only [brs] at hb) <;> conv => whnf) | omega | (refine And.intro ?_ ?_; ((try dsimp only); first | omega | (refine szA rfl ?_; omega) | (refine szB rfl ?_; omega) | (unfold inI64; omega) | exact rfl | (simp only [lns] at *; omega) | decide | (unfold inI64; decide)); conv => whnf) | decide | assumption)
 refine .ent _ _ (Entails.froR 6 rfl) (.weak _ ?_)
 conv => whnf
 exact ⟨.agg [.mp 6, .d (hirs h)], [(6, mF (hend f.plt).out)], lr, ⟨rfl, rfl⟩, le_froR _, trivial⟩
theorem find_none {α : Type} {l : List α} {d : α} {p : α → Bool} (h : ∀ j, j < l.length → p (l.getD j d) = false) : l.find? p = none := by
 rw [List.find?_eq_none]
 intro x hx
 obtain ⟨j, hj, rfl⟩ := mem_getD (d := d) hx
 rw [h j hj]; simp
theorem find_hit {α : Type} {d : α} {p : α → Bool} : ∀ {l : List α} {i : Nat}, i < l.length → (∀ j, j < i → p (l.getD j d) = false) → p (l.getD i d) = true → l.find? p = some (l.getD i d) := by
 intro l
 induction l with
 | nil => intro i hi; simp at hi
 | cons x l ih =>
   intro i hi h ho
   cases i with
   | zero =>
     rw [List.getD_cons_zero] at ho ⊢
     rw [List.find?_cons_of_pos ho]
   | succ i =>
     have h0 := h 0 (by omega)
     rw [List.getD_cons_zero] at h0
     rw [List.find?_cons_of_neg (by simp [h0])]
     rw [List.getD_cons_succ] at ho ⊢
     exact ih (by simpa using hi) (fun j hj => by have := h (j + 1) (by omega); rwa [List.getD_cons_succ] at this) ho
def lookV (o : List Hld) (t : Int) : List UInt8 := (findH o t).getD []
def icC (t : Int) : Res := .cells 3 [.d (.int .i64 t)]
theorem z181 (x : Leg) : FSpec Tryz.prog 181 [.agg ((lgF x).map .d)] [] (fun y r => y = .agg [.d (.int .i64 x.out.tm), .d (.int .i64 (lastE x))] ∧ r = []) := by
 refine spec_of hT (C := []) Tryz.func181 rfl Tryz.call181 rfl rfl rfl ?_
 conv => whnf
 repeat' (first | (refine br_intro ?_ ?_ <;> intro hb <;> (try simp only [brs] at hb) <;> conv => whnf) | omega | (refine And.intro ?_ ?_; ((try dsimp only); first | omega | (refine szA rfl ?_; omega) | (refine szB rfl ?_; omega) | (unfold inI64; omega) | exact rfl | (simp only [lns] at *; omega) | decide | (unfold inI64; decide)); conv => whnf) | decide | assumption)
 all_goals
  refine .ret _ ?_
  conv => whnf
  refine ⟨[], ⟨?_, rfl⟩, trivial⟩
  conv => lhs; whnf
  unfold lastE
  first
   | (rw [if_pos hb]; rfl)
   | (rw [if_neg hb]; rfl)
def hirIx (l : List Hir) (v : List UInt8) (t : Int) : Int := ixF (fun i => occ v (l.getD i hi0) t) l.length
def ownK (o : List Hld) (l : List Hir) (t : Int) : Int := if lookV o t = [] then -1 else hirIx l (lookV o t) t
def oTFlM114_1 : List (Nat × List Nat) := [(0, []), (1, []), (3, [0, 1]), (4, [0, 1]), (6, [0, 1, 3, 4]), (7, [0, 1, 3, 4]), (8, [0, 1, 3, 4]), (9, [0, 1, 3, 4]), (2, [3, 4, 6, 7, 8, 9]), (5, [6, 7, 8, 9]), (10, []), (11, []), (12, []), (13, [])]
def oTFlM114_9 : List (Nat × List Nat) := [(0, []), (1, []), (2, []), (3, []), (4, []), (5, [3, 4]), (6, [3, 4]), (7, [3, 4, 5, 6]), (8, [3, 4, 5, 6]), (9, [3, 4]), (10, [3, 4]), (11, [3, 4]), (12, []), (13, []), (14, [])]
set_option maxHeartbeats 4000000 in
theorem z114 (f : Flt) (hk : fltOk f) : FSpec Tryz.prog 114 [flt f] [] (fun x r => x = .d (.int .i64 (fltE f)) ∧ r = []) := by
 have hlv := hk.veh.1
 have hlp := hk.plt.1
 have H : (if decide ((500 : Int) < f.veh.length) = true then (2 : Int) else 0) = if 500 < f.veh.length then 2 else 0 := by
  simp only [decide_eq_true_eq]; congr 1; rw [eq_iff_iff]; omega
 have h3 := s105 [stasE f.sta, clssE f.cls, if decide ((500 : Int) < f.veh.length) = true then 2 else 0] (by simp)
 rw [show firstE [stasE f.sta, clssE f.cls, if decide ((500 : Int) < f.veh.length) = true then 2 else 0] = fltE0 f from by rw [H]; rfl] at h3
 refine spec_of hT (C := []) Tryz.func114 rfl Tryz.call114 rfl rfl rfl ?_
 conv => whnf
 repeat' (first | (refine CallX.exact (z174 f.sta hk.sta) rfl rfl ?_; rotate_right; conv => whnf) | (refine CallX.exact (z175 f.cls hk.cls) rfl rfl ?_; rotate_right; conv => whnf) | (refine CallX.exact (s107 _ _) rfl rfl ?_; rotate_right; conv => whnf) | (refine CallX.pure h3 ⟨SV.le_lit (by rfl) (by rfl), trivial⟩ rfl ?_; conv => whnf) | (refine br_intro ?_ ?_ <;> intro hb <;> (try simp only [brs] at hb) <;> conv => whnf) | (refine RegX.rule (id := 1) hT rfl [] oTFlM114_1 (by decide +kernel) ?_; conv => whnf) | (refine RegX.rule (id := 9) hT rfl [] oTFlM114_9 (by decide +kernel) ?_; conv => whnf) | omega | (refine And.intro ?_ ?_; ((try dsimp only); first | omega | (refine szA rfl ?_; omega) | (refine szB rfl ?_; omega) | (unfold inI64; omega) | (simp only [lns] at *; omega) | decide | (unfold inI64; decide)); conv => whnf) | decide | assumption)
 · refine .ret _ ?_
   conv => whnf
   refine ⟨[], ⟨?_, rfl⟩, trivial⟩
   conv => lhs; whnf
   congr 2
   unfold fltE; rw [if_pos hb]
 have F0 : fltE0 f = 0 := hb
 refine LoopX.rule hT (C := []) (ι := Nat) (fun i => i ≤ f.veh.length ∧ ∀ j, j < i → vehE1 f j = 0) (fun i => mkSt [(1, .ptr 1 0), (23, .d (vehs f.veh)), (24, .d (.int .i64 f.veh.length)), (25, .d (.int .i64 i))] [(1, fltC f)]) (fun i => f.veh.length - i) 0 ⟨by omega, by omega⟩ (by (refine Entails.mk' [(1, 1)] rfl rfl ?_ ?_ <;> repeat' (first | exact True.intro | exact lr | exact rr | exact SV.le_int (by omega) | exact SV.le_any _ | refine And.intro ?_ ?_)); done) ?_
 rintro i ⟨p1, p2⟩
 have hx : (i : Int) < f.veh.length → (f.veh.getD (i : Int).toNat veh0).key.length ≤ 2^40 ∧ (f.veh.getD (i : Int).toNat veh0).cls.length ≤ 2^40 := fun hi => hk.veh.2 _ (getD_mem (by omega))
 have e1 : (i : Int).toNat = i := Int.toNat_natCast i
 have hbad : ∀ e : Int, i < f.veh.length → e ≠ 0 → vehE1 f i = e → fltE f = e := fun e h h1 h2 => by
  unfold fltE; rw [if_neg (by omega), firstAt_eq h p2 h1 h2, if_pos h1]
 rcases Nat.lt_or_ge i f.veh.length with hi | hi
 · conv => whnf
   repeat' (first | (refine CallX.exact (s108 _ (hx (by omega)).1) rfl rfl ?_; rotate_right; conv => whnf) | (refine CallX.exact (z176 f.cls (Nat.le_trans hk.cls.1 (by decide)) _) rfl rfl ?_; rotate_right; conv => whnf) | (refine br_intro ?_ ?_ <;> intro hb <;> (try simp only [brs] at hb) <;> conv => whnf) | (refine RegX.rule (id := 1) hT rfl [] oTFlM114_1 (by decide +kernel) ?_; conv => whnf) | (refine RegX.rule (id := 9) hT rfl [] oTFlM114_9 (by decide +kernel) ?_; conv => whnf) | omega | (refine And.intro ?_ ?_; ((try dsimp only); first | omega | (refine szA rfl ?_; omega) | (refine szB rfl ?_; omega) | (unfold inI64; omega) | (simp only [lns] at *; omega) | decide | (unfold inI64; decide)); conv => whnf) | decide | assumption)
   all_goals try (exfalso; omega)
   all_goals first
    | (refine ⟨i + 1, ⟨by omega, first_step p2 (by clear p2 hbad hk hx; simp only [e1, toNat_pred] at *; unfold vehE1 strLe; grind)⟩, by omega, (by (refine Entails.mk' [(1, 1)] rfl rfl ?_ ?_ <;> repeat' (first | exact True.intro | exact lr | exact rr | exact SV.le_int (by omega) | exact SV.le_any _ | refine And.intro ?_ ?_)); done)⟩)
    | (refine .ret _ ?_
       conv => whnf
       refine ⟨[], ⟨?_, rfl⟩, trivial⟩
       conv => lhs; whnf
       congr 2
       exact (hbad _ (by omega) (by decide) (by clear p2 hbad hk hx; simp only [e1, toNat_pred] at *; unfold vehE1 strLe; grind)).symm)
 have hil : i = f.veh.length := by omega
 subst hil
 have F1 := firstAt_zero p2
 clear hbad hx p2
 conv => whnf
 repeat' (first | (refine CallX.exact (z177 f hk (vehE_sorted F1)) rfl rfl ?_; rotate_right; conv => whnf) | (refine br_intro ?_ ?_ <;> intro hb <;> (try simp only [brs] at hb) <;> conv => whnf) | (refine RegX.rule (id := 1) hT rfl [] oTFlM114_1 (by decide +kernel) ?_; conv => whnf) | (refine RegX.rule (id := 9) hT rfl [] oTFlM114_9 (by decide +kernel) ?_; conv => whnf) | omega | (refine And.intro ?_ ?_; ((try dsimp only); first | omega | (refine szA rfl ?_; omega) | (refine szB rfl ?_; omega) | (unfold inI64; omega) | (simp only [lns] at *; omega) | decide | (unfold inI64; decide)); conv => whnf) | decide | assumption)
 all_goals try (exfalso; omega)
 refine .ret _ ?_
 conv => whnf
 refine ⟨[], ⟨?_, rfl⟩, trivial⟩
 conv => lhs; whnf
 congr 2
 unfold fltE pltsE
 simp [F0, F1]
def offE (f : Flt) (h : List Hir) : Int := firstE [fltE f, hirsE h]
theorem z72 (f : Flt) (hk : fltOk f) (h : List Hir) (hh : hiOk h) : FSpec Tryz.prog 72 [flt f, .d (hirs h)] [] (fun x r => x = .d (.int .i64 (offE f h)) ∧ r = []) := by
 have h3 := s105 [fltE f, hirsE h] (by simp)
 rw [show firstE [fltE f, hirsE h] = offE f h from rfl] at h3
 refine spec_of hT (C := []) Tryz.func72 rfl Tryz.call72 rfl rfl rfl ?_
 conv => whnf
 repeat' (first | (refine CallX.exact (z114 f hk) rfl rfl ?_; rotate_right; conv => whnf) | (refine CallX.exact (z124 h hh) rfl rfl ?_; rotate_right; conv => whnf) | (refine CallX.pure h3 ⟨SV.le_lit (by rfl) (by rfl), trivial⟩ rfl ?_; conv => whnf) | (refine br_intro ?_ ?_ <;> intro hb <;> (try simp only [brs] at hb) <;> conv => whnf) | omega | (refine And.intro ?_ ?_; ((try dsimp only); first | omega | (refine szA rfl ?_; omega) | (refine szB rfl ?_; omega) | (unfold inI64; omega) | (simp only [lns] at *; omega) | decide | (unfold inI64; decide)); conv => whnf) | decide | assumption)
 refine .ret _ ?_
 conv => whnf
 refine ⟨[], ⟨?_, rfl⟩, trivial⟩
 conv => lhs; whnf
theorem s221_0 : FSpec Tryz.prog 229 [.d (.int .u64 0)] [] (fun y r => (∃ m : Int, y = .d (.int .i64 m)) ∧ r = []) := by
 refine spec_of hT (C := []) Tryz.func229 rfl Tryz.call229 rfl rfl rfl ?_
 conv => whnf
 repeat' (first | (refine br_intro ?_ ?_ <;> intro hb <;> (try simp only [brs] at hb) <;> conv => whnf) | omega | (refine And.intro ?_ ?_; ((try dsimp only); first | omega | (refine szA rfl ?_; omega) | (refine szB rfl ?_; omega) | (unfold inI64; omega) | (simp only [lns] at *; omega) | decide | (unfold inI64; decide)); conv => whnf) | decide | assumption)
 refine .ret _ ?_
 conv => whnf
 exact ⟨[], ⟨⟨_, rfl⟩, rfl⟩, trivial⟩
theorem s221_1 : FSpec Tryz.prog 229 [.d (.int .u64 1)] [] (fun y r => (∃ m : Int, y = .d (.int .i64 m)) ∧ r = []) := by
 refine spec_of hT (C := []) Tryz.func229 rfl Tryz.call229 rfl rfl rfl ?_
 conv => whnf
 repeat' (first | (refine br_intro ?_ ?_ <;> intro hb <;> (try simp only [brs] at hb) <;> conv => whnf) | omega | (refine And.intro ?_ ?_; ((try dsimp only); first | omega | (refine szA rfl ?_; omega) | (refine szB rfl ?_; omega) | (unfold inI64; omega) | (simp only [lns] at *; omega) | decide | (unfold inI64; decide)); conv => whnf) | decide | assumption)
 refine .ret _ ?_
 conv => whnf
 exact ⟨[], ⟨⟨_, rfl⟩, rfl⟩, trivial⟩
theorem s221_2 : FSpec Tryz.prog 229 [.d (.int .u64 2)] [] (fun y r => (∃ m : Int, y = .d (.int .i64 m)) ∧ r = []) := by
 refine spec_of hT (C := []) Tryz.func229 rfl Tryz.call229 rfl rfl rfl ?_
 conv => whnf
 repeat' (first | (refine br_intro ?_ ?_ <;> intro hb <;> (try simp only [brs] at hb) <;> conv => whnf) | omega | (refine And.intro ?_ ?_; ((try dsimp only); first | omega | (refine szA rfl ?_; omega) | (refine szB rfl ?_; omega) | (unfold inI64; omega) | (simp only [lns] at *; omega) | decide | (unfold inI64; decide)); conv => whnf) | decide | assumption)
 refine .ret _ ?_
 conv => whnf
 exact ⟨[], ⟨⟨_, rfl⟩, rfl⟩, trivial⟩
theorem s221_3 : FSpec Tryz.prog 229 [.d (.int .u64 3)] [] (fun y r => (∃ m : Int, y = .d (.int .i64 m)) ∧ r = []) := by
 refine spec_of hT (C := []) Tryz.func229 rfl Tryz.call229 rfl rfl rfl ?_
 conv => whnf
 repeat' (first | (refine br_intro ?_ ?_ <;> intro hb <;> (try simp only [brs] at hb) <;> conv => whnf) | omega | (refine And.intro ?_ ?_; ((try dsimp only); first | omega | (refine szA rfl ?_; omega) | (refine szB rfl ?_; omega) | (unfold inI64; omega) | (simp only [lns] at *; omega) | decide | (unfold inI64; decide)); conv => whnf) | decide | assumption)
 refine .ret _ ?_
 conv => whnf
 exact ⟨[], ⟨⟨_, rfl⟩, rfl⟩, trivial⟩
theorem s221_4 : FSpec Tryz.prog 229 [.d (.int .u64 4)] [] (fun y r => (∃ m : Int, y = .d (.int .i64 m)) ∧ r = []) := by
 refine spec_of hT (C := []) Tryz.func229 rfl Tryz.call229 rfl rfl rfl ?_
 conv => whnf
 repeat' (first | (refine br_intro ?_ ?_ <;> intro hb <;> (try simp only [brs] at hb) <;> conv => whnf) | omega | (refine And.intro ?_ ?_; ((try dsimp only); first | omega | (refine szA rfl ?_; omega) | (refine szB rfl ?_; omega) | (unfold inI64; omega) | (simp only [lns] at *; omega) | decide | (unfold inI64; decide)); conv => whnf) | decide | assumption)
 refine .ret _ ?_
 conv => whnf
 exact ⟨[], ⟨⟨_, rfl⟩, rfl⟩, trivial⟩
theorem s221_5 : FSpec Tryz.prog 229 [.d (.int .u64 5)] [] (fun y r => (∃ m : Int, y = .d (.int .i64 m)) ∧ r = []) := by
 refine spec_of hT (C := []) Tryz.func229 rfl Tryz.call229 rfl rfl rfl ?_
 conv => whnf
 repeat' (first | (refine br_intro ?_ ?_ <;> intro hb <;> (try simp only [brs] at hb) <;> conv => whnf) | omega | (refine And.intro ?_ ?_; ((try dsimp only); first | omega | (refine szA rfl ?_; omega) | (refine szB rfl ?_; omega) | (unfold inI64; omega) | (simp only [lns] at *; omega) | decide | (unfold inI64; decide)); conv => whnf) | decide | assumption)
 refine .ret _ ?_
 conv => whnf
 exact ⟨[], ⟨⟨_, rfl⟩, rfl⟩, trivial⟩
theorem s221_6 : FSpec Tryz.prog 229 [.d (.int .u64 6)] [] (fun y r => (∃ m : Int, y = .d (.int .i64 m)) ∧ r = []) := by
 refine spec_of hT (C := []) Tryz.func229 rfl Tryz.call229 rfl rfl rfl ?_
 conv => whnf
 repeat' (first | (refine br_intro ?_ ?_ <;> intro hb <;> (try simp only [brs] at hb) <;> conv => whnf) | omega | (refine And.intro ?_ ?_; ((try dsimp only); first | omega | (refine szA rfl ?_; omega) | (refine szB rfl ?_; omega) | (unfold inI64; omega) | (simp only [lns] at *; omega) | decide | (unfold inI64; decide)); conv => whnf) | decide | assumption)
 refine .ret _ ?_
 conv => whnf
 exact ⟨[], ⟨⟨_, rfl⟩, rfl⟩, trivial⟩
theorem s221_7 : FSpec Tryz.prog 229 [.d (.int .u64 7)] [] (fun y r => (∃ m : Int, y = .d (.int .i64 m)) ∧ r = []) := by
 refine spec_of hT (C := []) Tryz.func229 rfl Tryz.call229 rfl rfl rfl ?_
 conv => whnf
 repeat' (first | (refine br_intro ?_ ?_ <;> intro hb <;> (try simp only [brs] at hb) <;> conv => whnf) | omega | (refine And.intro ?_ ?_; ((try dsimp only); first | omega | (refine szA rfl ?_; omega) | (refine szB rfl ?_; omega) | (unfold inI64; omega) | (simp only [lns] at *; omega) | decide | (unfold inI64; decide)); conv => whnf) | decide | assumption)
 refine .ret _ ?_
 conv => whnf
 exact ⟨[], ⟨⟨_, rfl⟩, rfl⟩, trivial⟩
theorem s221_8 : FSpec Tryz.prog 229 [.d (.int .u64 8)] [] (fun y r => (∃ m : Int, y = .d (.int .i64 m)) ∧ r = []) := by
 refine spec_of hT (C := []) Tryz.func229 rfl Tryz.call229 rfl rfl rfl ?_
 conv => whnf
 repeat' (first | (refine br_intro ?_ ?_ <;> intro hb <;> (try simp only [brs] at hb) <;> conv => whnf) | omega | (refine And.intro ?_ ?_; ((try dsimp only); first | omega | (refine szA rfl ?_; omega) | (refine szB rfl ?_; omega) | (unfold inI64; omega) | (simp only [lns] at *; omega) | decide | (unfold inI64; decide)); conv => whnf) | decide | assumption)
 refine .ret _ ?_
 conv => whnf
 exact ⟨[], ⟨⟨_, rfl⟩, rfl⟩, trivial⟩
theorem s221_9 : FSpec Tryz.prog 229 [.d (.int .u64 9)] [] (fun y r => (∃ m : Int, y = .d (.int .i64 m)) ∧ r = []) := by
 refine spec_of hT (C := []) Tryz.func229 rfl Tryz.call229 rfl rfl rfl ?_
 conv => whnf
 repeat' (first | (refine br_intro ?_ ?_ <;> intro hb <;> (try simp only [brs] at hb) <;> conv => whnf) | omega | (refine And.intro ?_ ?_; ((try dsimp only); first | omega | (refine szA rfl ?_; omega) | (refine szB rfl ?_; omega) | (unfold inI64; omega) | (simp only [lns] at *; omega) | decide | (unfold inI64; decide)); conv => whnf) | decide | assumption)
 refine .ret _ ?_
 conv => whnf
 exact ⟨[], ⟨⟨_, rfl⟩, rfl⟩, trivial⟩
theorem s221_10 : FSpec Tryz.prog 229 [.d (.int .u64 10)] [] (fun y r => (∃ m : Int, y = .d (.int .i64 m)) ∧ r = []) := by
 refine spec_of hT (C := []) Tryz.func229 rfl Tryz.call229 rfl rfl rfl ?_
 conv => whnf
 repeat' (first | (refine br_intro ?_ ?_ <;> intro hb <;> (try simp only [brs] at hb) <;> conv => whnf) | omega | (refine And.intro ?_ ?_; ((try dsimp only); first | omega | (refine szA rfl ?_; omega) | (refine szB rfl ?_; omega) | (unfold inI64; omega) | (simp only [lns] at *; omega) | decide | (unfold inI64; decide)); conv => whnf) | decide | assumption)
 refine .ret _ ?_
 conv => whnf
 exact ⟨[], ⟨⟨_, rfl⟩, rfl⟩, trivial⟩
theorem s221_11 : FSpec Tryz.prog 229 [.d (.int .u64 11)] [] (fun y r => (∃ m : Int, y = .d (.int .i64 m)) ∧ r = []) := by
 refine spec_of hT (C := []) Tryz.func229 rfl Tryz.call229 rfl rfl rfl ?_
 conv => whnf
 repeat' (first | (refine br_intro ?_ ?_ <;> intro hb <;> (try simp only [brs] at hb) <;> conv => whnf) | omega | (refine And.intro ?_ ?_; ((try dsimp only); first | omega | (refine szA rfl ?_; omega) | (refine szB rfl ?_; omega) | (unfold inI64; omega) | (simp only [lns] at *; omega) | decide | (unfold inI64; decide)); conv => whnf) | decide | assumption)
 refine .ret _ ?_
 conv => whnf
 exact ⟨[], ⟨⟨_, rfl⟩, rfl⟩, trivial⟩
theorem s221_12 : FSpec Tryz.prog 229 [.d (.int .u64 12)] [] (fun y r => (∃ m : Int, y = .d (.int .i64 m)) ∧ r = []) := by
 refine spec_of hT (C := []) Tryz.func229 rfl Tryz.call229 rfl rfl rfl ?_
 conv => whnf
 repeat' (first | (refine br_intro ?_ ?_ <;> intro hb <;> (try simp only [brs] at hb) <;> conv => whnf) | omega | (refine And.intro ?_ ?_; ((try dsimp only); first | omega | (refine szA rfl ?_; omega) | (refine szB rfl ?_; omega) | (unfold inI64; omega) | (simp only [lns] at *; omega) | decide | (unfold inI64; decide)); conv => whnf) | decide | assumption)
 refine .ret _ ?_
 conv => whnf
 exact ⟨[], ⟨⟨_, rfl⟩, rfl⟩, trivial⟩
theorem s221 (n : Nat) (hn : n ≤ 12) : FSpec Tryz.prog 229 [.d (.int .u64 n)] [] (fun y r => (∃ m : Int, y = .d (.int .i64 m)) ∧ r = []) := by
 match n, hn with
 | 0, _ => exact s221_0
 | 1, _ => exact s221_1
 | 2, _ => exact s221_2
 | 3, _ => exact s221_3
 | 4, _ => exact s221_4
 | 5, _ => exact s221_5
 | 6, _ => exact s221_6
 | 7, _ => exact s221_7
 | 8, _ => exact s221_8
 | 9, _ => exact s221_9
 | 10, _ => exact s221_10
 | 11, _ => exact s221_11
 | 12, _ => exact s221_12
 | n + 13, h => omega
theorem wrap_u64 (n : Nat) (hn : n ≤ 12) : IntKind.u64.wrap n = n := by
 match n, hn with
 | 0, _ | 1, _ | 2, _ | 3, _ | 4, _ | 5, _ | 6, _ | 7, _ | 8, _ | 9, _ | 10, _ | 11, _ | 12, _ => decide
 | n + 13, h => omega
theorem sBitsLen (n : Nat) (hn : n ≤ 12) : FSpec Tryz.prog 169 [.d (.int .u64 (IntKind.u64.wrap n))] [] (fun y r => (∃ m : Int, y = .d (.int .i64 m)) ∧ r = []) := by
 rw [wrap_u64 n hn]
 refine spec_of hT (C := []) Tryz.func169 rfl Tryz.call169 rfl rfl rfl ?_
 conv => whnf
 repeat' (first | (refine br_intro ?_ ?_ <;> intro hb <;> (try simp only [brs] at hb) <;> conv => whnf) | omega | (refine And.intro ?_ ?_; ((try dsimp only); first | omega | (refine szA rfl ?_; omega) | (refine szB rfl ?_; omega) | (unfold inI64; omega) | (simp only [lns] at *; omega) | decide | (unfold inI64; decide)); conv => whnf) | decide | assumption)
 refine CallX.of (s221 n hn) [] rfl ⟨lr, trivial⟩ trivial rfl rfl ?_
 rintro x rout ⟨⟨m, rfl⟩, rfl⟩
 refine ⟨rfl, ?_⟩
 conv => whnf
 refine .ret _ ?_
 conv => whnf
 exact ⟨[], ⟨⟨_, rfl⟩, rfl⟩, trivial⟩
def oTFlN251_4 : List (Nat × List Nat) := [(0, []), (1, [0]), (2, []), (3, []), (4, []), (5, [4]), (6, [4, 5]), (7, [4]), (8, [4]), (9, [4, 5, 6, 7, 8]), (10, [4, 5, 6, 7, 8, 9]), (11, [4, 5, 6, 7, 8, 9]), (12, [4, 5, 6, 7, 8]), (13, [4, 5, 6, 7, 8]), (14, []), (15, []), (16, [])]
def oTFlN251_6 : List (Nat × List Nat) := [(0, []), (1, [0]), (2, [0, 1]), (3, [0, 1, 2]), (4, [0, 1, 2]), (5, [0, 1, 2, 3, 4]), (6, [0, 1, 2, 3, 4, 5]), (7, [0, 1, 2, 3, 4, 5]), (8, [0, 1, 2, 3, 4]), (9, [0, 1, 2, 3, 4]), (10, [0, 1, 2, 3, 4, 5, 6, 7, 8, 9]), (11, [0, 1, 2, 3, 4, 5, 6, 7, 8, 9, 10]), (12, [0, 1, 2, 3, 4, 5, 6, 7, 8, 9]), (13, [0, 1, 2, 3, 4, 5, 6, 7, 8, 9]), (14, [2, 3, 4]), (15, [2, 3, 4]), (16, []), (17, [])]
def oTFlN187_17 : List (Nat × List Nat) := [(0, []), (1, []), (2, []), (3, []), (4, [3]), (5, [3, 4]), (6, [3, 4]), (7, [3]), (8, [3]), (9, [3, 4, 5, 6, 7, 8]), (10, [3, 4, 5, 6, 7, 8, 9]), (11, [3, 4, 5, 6, 7, 8]), (12, [3, 4, 5, 6, 7, 8]), (13, []), (14, []), (15, []), (16, [])]
abbrev pltB (l : List Plt) : Res := seqB 126 3 pltF plt0 l
abbrev staB (l : List Sta) : Res := seqB 121 15 staF sta0 l
abbrev vehB (l : List Veh) : Res := seqB 124 2 vehF veh0 l
theorem z137 (l : List Plt) (hl : l.length ≤ 2^20) : FSpec Tryz.prog 137 [.buf 1000001] [(1000001, pltB l)] (fun y r => (y = .d .nilsl ∧ l = [] ∧ r = [(1000001, pltB l)]) ∨ (y = .buf 7 ∧ r = [(7, pltB l), (1000001, pltB l)])) := by
 refine spec_of hT (C := [5]) Tryz.func137 rfl Tryz.call137 rfl rfl rfl ?_
 conv => whnf
 rintro b hbn
 conv => whnf
 repeat' (first | (refine br_intro ?_ ?_ <;> intro hb <;> (try simp only [brs] at hb) <;> conv => whnf) | omega | (refine And.intro ?_ ?_; ((try dsimp only); first | omega | (refine szA rfl ?_; omega) | (refine szB rfl ?_; omega) | (unfold inI64; omega) | (simp only [lns] at *; omega) | decide | (unfold inI64; decide)); conv => whnf) | decide | assumption)
 · have : l = [] := List.eq_nil_of_length_eq_zero (hbn (by assumption))
   refine .ret _ ?_
   conv => whnf
   exact ⟨_, .inl ⟨rfl, this, rfl⟩, rr, trivial⟩
 · refine .ret _ ?_
   conv => whnf
   refine ⟨_, .inr ⟨rfl, rfl⟩, Res.le_buf (by simp) (fun i hi => ?_), rr, trivial⟩
   rw [appGet_ge (by omega)]; rfl
def rfCmp (p q : Plt) : Int := if p.frm ≠ q.frm then p.frm - q.frm else cmpS (p.veh ++ [32] ++ p.plt) (q.veh ++ [32] ++ q.plt)
theorem z139 (p q : Plt) (hp : pltK p) (hq : pltK q) : FSpec Tryz.prog 139 [.agg ((pltF p).map .d), .agg ((pltF q).map .d)] [] (fun y r => y = .d (.int .i64 (rfCmp p q)) ∧ r = []) := by
 have h1 := hp.2.1
 have h2 := hp.2.2
 have h3 := hq.2.1
 have h4 := hq.2.2
 have h5 := hp.1
 have h6 := hq.1
 refine spec_of hT (C := []) Tryz.func139 rfl Tryz.call139 rfl rfl rfl ?_
 conv => whnf
 repeat' (first | (refine CallX.exact (s190 _ _) rfl rfl ?_; rotate_right; conv => whnf) | (refine br_intro ?_ ?_ <;> intro hb <;> (try simp only [brs] at hb) <;> conv => whnf) | omega | (refine And.intro ?_ ?_; ((try dsimp only); first | omega | (refine szA rfl ?_; omega) | (refine szB rfl ?_; omega) | (unfold inI64; omega) | (simp only [lns] at *; omega) | decide | (unfold inI64; decide)); conv => whnf) | decide | assumption)
 all_goals
  refine .ret _ ?_
  conv => whnf
  refine ⟨[], ⟨?_, rfl⟩, trivial⟩
  conv => lhs; whnf
  congr 2
  unfold rfCmp
  first | (rw [if_pos (by simpa using hb)]; done) | (rw [if_neg (by simpa using hb)]; done)
theorem swap_midPl {A B : List Plt} {x y : Plt} {D b : List Plt} {j : Nat} (hb : (y :: A).reverse ++ [x] ++ B ++ D = b) (hj : j = A.length + 1) :
 b.getD j plt0 = x ∧ b.getD (j - 1) plt0 = y ∧ (b.set j y).set (j - 1) x = A.reverse ++ [x] ++ (y :: B) ++ D := by
 subst hj
 refine ⟨?_, ?_, ?_⟩
 · rw [← hb, show (y :: A).reverse ++ [x] ++ B ++ D = (y :: A).reverse ++ x :: (B ++ D) by simp]
   exact getD_mid _ _ _ _ (by simp)
 · rw [← hb, show (y :: A).reverse ++ [x] ++ B ++ D = A.reverse ++ y :: ([x] ++ B ++ D) by simp]
   exact getD_mid _ _ _ _ (by simp)
 · rw [← hb]
   have := swap_lemma A.reverse (B ++ D) x y
   simp only [List.length_reverse] at this
   simp only [List.reverse_cons, List.append_assoc, List.singleton_append, List.cons_append, List.nil_append, Nat.add_sub_cancel] at this ⊢
   exact this
theorem sInsPl (g : FuncId) (cmp : Plt → Plt → Int) (l : List Plt) (hl : l.length ≤ 2^40)
 (hcmp : ∀ p q, p ∈ l → q ∈ l → FSpec Tryz.prog g [.agg ((pltF p).map .d), .agg ((pltF q).map .d)] [] (fun y r => y = .d (.int .i64 (cmp p q)) ∧ r = [])) :
 FSpec Tryz.prog 251 [.buf 1000001, .d (.int .i64 0), .d (.int .i64 l.length), .fn g []] [(1000001, seqB 126 3 pltF plt0 l)]
  (fun y r => y = .tup [] ∧ r = [(1000001, seqB 126 3 pltF plt0 (isort cmp l))]) := by
 refine spec_of hT (C := []) Tryz.func251 rfl Tryz.call251 rfl rfl rfl ?_
 conv => whnf
 repeat' (first | (refine br_intro ?_ ?_ <;> intro hb <;> (try simp only [brs] at hb) <;> conv => whnf) | (refine RegX.rule (id := 4) hT rfl [] oTFlN251_4 (by decide +kernel) ?_; conv => whnf) | (refine RegX.rule (id := 6) hT rfl [] oTFlN251_6 (by decide +kernel) ?_; conv => whnf) | omega | (refine And.intro ?_ ?_; ((try dsimp only); first | omega | (refine szA rfl ?_; omega) | (refine szB rfl ?_; omega) | (unfold inI64; omega) | (simp only [lns] at *; omega) | decide | (unfold inI64; decide)); conv => whnf) | decide | assumption)
 refine LoopX.rule hT (C := []) (ι := Nat × List Plt) (fun (i, c) => 1 ≤ i ∧ (i ≤ l.length ∨ i = 1) ∧ c = (isortR cmp (l.take i)).reverse ++ l.drop i)
  (fun (i, c) => mkSt [(0, .buf 1000001), (1, .d (.int .i64 0)), (2, .d (.int .i64 l.length)), (3, .fn g []), (8, .d (.int .i64 i))] [(1000001, seqB 126 3 pltF plt0 c)])
  (fun (i, _) => l.length - i) (1, l) ⟨by simp, by simp, by cases l with | nil => rfl | cons x l => simp [isortR, insR]⟩ (by (refine Entails.mk' [(1000001, 1000001)] rfl rfl ?_ ?_ <;> repeat' (first | exact True.intro | exact lr | exact rr | exact SV.le_int (by omega) | exact SV.le_any _ | refine And.intro ?_ ?_)); done) ?_
 rintro ⟨i, c⟩ ⟨p1, p2, p3⟩
 conv => whnf
 repeat' (first | (refine br_intro ?_ ?_ <;> intro hb <;> (try simp only [brs] at hb) <;> conv => whnf) | (refine RegX.rule (id := 4) hT rfl [] oTFlN251_4 (by decide +kernel) ?_; conv => whnf) | (refine RegX.rule (id := 6) hT rfl [] oTFlN251_6 (by decide +kernel) ?_; conv => whnf) | omega | (refine And.intro ?_ ?_; ((try dsimp only); first | omega | (refine szA rfl ?_; omega) | (refine szB rfl ?_; omega) | (unfold inI64; omega) | (simp only [lns] at *; omega) | decide | (unfold inI64; decide)); conv => whnf) | decide | assumption)
 · have hi : i < l.length := by omega
   have hx : l[i] ∈ l := List.getElem_mem hi
   have hmem : ∀ y ∈ isortR cmp (l.take i), y ∈ l := fun y hy => List.mem_of_mem_take ((isortR_mem cmp _).1 hy)
   have hlr : (isortR cmp (l.take i)).length = i := by rw [isortR_length, List.length_take]; omega
   have hc : c = (isortR cmp (l.take i)).reverse ++ [l[i]] ++ [] ++ l.drop (i + 1) := by rw [p3, List.drop_eq_getElem_cons hi]; simp
   refine LoopX.rule hT (C := []) (ι := List Plt × List Plt × List Plt) (fun (A, B, b) => insR cmp l[i] (isortR cmp (l.take i)) = B.reverse ++ insR cmp l[i] A ∧ A.length + B.length = i ∧ (∀ y ∈ A, y ∈ l) ∧ A.reverse ++ [l[i]] ++ B ++ l.drop (i + 1) = b)
    (fun (A, B, b) => mkSt [(0, .buf 1000001), (1, .d (.int .i64 0)), (2, .d (.int .i64 l.length)), (3, .fn g []), (8, .d (.int .i64 i)), (9, .d (.int .i64 A.length))] [(1000001, seqB 126 3 pltF plt0 b)])
    (fun (A, _, _) => A.length) (isortR cmp (l.take i), [], c) ⟨by simp, by simpa using hlr, hmem, hc.symm⟩ ?_ ?_
   · exact Entails.mk' [(1000001, 1000001)] rfl rfl ⟨lr, lr, lr, lr, lr, SV.le_int (by omega), trivial⟩ ⟨rr, trivial⟩
   rintro ⟨A, B, b⟩ ⟨q1, q2, q3, hbd⟩
   have hlen : b.length = l.length := by rw [← hbd]; simp; omega
   have hfin : A = [] ∨ (∃ y A', A = y :: A' ∧ 0 ≤ cmp l[i] y) → isortR cmp (l.take (i + 1)) = B.reverse ++ l[i] :: A ∧ b = (isortR cmp (l.take (i + 1))).reverse ++ l.drop (i + 1) := fun h => by
    have e : isortR cmp (l.take (i + 1)) = B.reverse ++ l[i] :: A := by
     rw [take_snoc hi, isortR_snoc, q1]
     rcases h with rfl | ⟨y, A', rfl, h⟩
     · rfl
     · rw [insR, if_neg (by omega)]
    exact ⟨e, by rw [e, ← hbd]; simp⟩
   conv => whnf
   repeat' (first | (refine br_intro ?_ ?_ <;> intro hb <;> (try simp only [brs] at hb) <;> conv => whnf) | (refine RegX.rule (id := 4) hT rfl [] oTFlN251_4 (by decide +kernel) ?_; conv => whnf) | (refine RegX.rule (id := 6) hT rfl [] oTFlN251_6 (by decide +kernel) ?_; conv => whnf) | omega | (refine And.intro ?_ ?_; ((try dsimp only); first | omega | (refine szA rfl ?_; omega) | (refine szB rfl ?_; omega) | (unfold inI64; omega) | (simp only [lns] at *; omega) | decide | (unfold inI64; decide)); conv => whnf) | decide | assumption)
   · cases A with
     | nil => simp at hb
     | cons y A =>
     obtain ⟨g1, g2, g3⟩ := swap_midPl (j := (((y :: A).length : Int)).toNat) hbd (by simp)
     have ej : ((((y :: A).length : Int)) - 1).toNat = (((y :: A).length : Int)).toNat - 1 := by omega
     refine CallX.of (hcmp l[i] y hx (q3 y (by simp))) [] rfl ⟨by rw [← g1]; exact lr, by rw [← g2, ← ej]; exact lr, trivial⟩ trivial rfl rfl ?_
     rintro x rout ⟨rfl, rfl⟩
     refine ⟨rfl, ?_⟩
     conv => whnf
     repeat' (first | (refine br_intro ?_ ?_ <;> intro hb <;> (try simp only [brs] at hb) <;> conv => whnf) | (refine RegX.rule (id := 4) hT rfl [] oTFlN251_4 (by decide +kernel) ?_; conv => whnf) | (refine RegX.rule (id := 6) hT rfl [] oTFlN251_6 (by decide +kernel) ?_; conv => whnf) | omega | (refine And.intro ?_ ?_; ((try dsimp only); first | omega | (refine szA rfl ?_; omega) | (refine szB rfl ?_; omega) | (unfold inI64; omega) | (simp only [lns] at *; omega) | decide | (unfold inI64; decide)); conv => whnf) | decide | assumption)
     · refine ⟨(A, y :: B, _), ⟨by rw [q1]; simp [insR, hb], by simp only [List.length_cons] at q2 ⊢; omega, fun z hz => q3 z (by simp [hz]), ?_⟩, by show A.length < (y :: A).length; simp, Entails.mk' [(1000001, 1000001)] rfl rfl ⟨lr, lr, lr, lr, lr, SV.le_int (by simp only [List.length_cons]; omega), trivial⟩ ⟨Res.le_put2 (x := b.getD ((((y :: A).length : Int)) - 1).toNat plt0) (y := b.getD (((y :: A).length : Int)).toNat plt0) (fun _ => rfl) (fun _ => rfl), trivial⟩⟩
       rw [← g3, ej, g1, g2]
     · obtain ⟨_, h2⟩ := hfin (.inr ⟨y, A, rfl, hb⟩)
       exact ⟨(i + 1, b), ⟨by omega, by omega, h2⟩, by show l.length - (i + 1) < l.length - i; omega, (by (refine Entails.mk' [(1000001, 1000001)] rfl rfl ?_ ?_ <;> repeat' (first | exact True.intro | exact lr | exact rr | exact SV.le_int (by omega) | exact SV.le_any _ | refine And.intro ?_ ?_)); done)⟩
   · have hA : A = [] := List.length_eq_zero_iff.1 (by omega)
     obtain ⟨_, h2⟩ := hfin (.inl hA)
     exact ⟨(i + 1, b), ⟨by omega, by omega, h2⟩, by show l.length - (i + 1) < l.length - i; omega, (by (refine Entails.mk' [(1000001, 1000001)] rfl rfl ?_ ?_ <;> repeat' (first | exact True.intro | exact lr | exact rr | exact SV.le_int (by omega) | exact SV.le_any _ | refine And.intro ?_ ?_)); done)⟩
 · refine .ret _ ?_
   conv => whnf
   have e1 : c = isort cmp l := by
    rw [p3, List.take_of_length_le (by omega), List.drop_eq_nil_iff.2 (by omega), List.append_nil]; rfl
   subst e1
   exact ⟨_, ⟨rfl, rfl⟩, rr, trivial⟩
theorem sPdqPl (g : FuncId) (cmp : Plt → Plt → Int) (l : List Plt) (hl : l.length ≤ 12) (lim : Int)
 (hcmp : ∀ p q, p ∈ l → q ∈ l → FSpec Tryz.prog g [.agg ((pltF p).map .d), .agg ((pltF q).map .d)] [] (fun y r => y = .d (.int .i64 (cmp p q)) ∧ r = [])) :
 FSpec Tryz.prog 187 [.buf 1000001, .d (.int .i64 0), .d (.int .i64 l.length), .d (.int .i64 lim), .fn g []] [(1000001, seqB 126 3 pltF plt0 l)]
  (fun y r => y = .tup [] ∧ r = [(1000001, seqB 126 3 pltF plt0 (isort cmp l))]) := by
 refine spec_of hT (C := []) Tryz.func187 rfl Tryz.call187 rfl rfl rfl ?_
 conv => whnf
 refine LoopX.unroll hT (C := []) (fun _ _ h => h) (fun _ h => h) ?_
 conv => whnf
 repeat' (first | (refine br_intro ?_ ?_ <;> intro hb <;> (try simp only [brs] at hb) <;> conv => whnf) | (refine RegX.rule (id := 17) hT rfl [] oTFlN187_17 (by decide +kernel) ?_; conv => whnf) | omega | (refine And.intro ?_ ?_; ((try dsimp only); first | omega | (refine szA rfl ?_; omega) | (refine szB rfl ?_; omega) | (unfold inI64; omega) | (simp only [lns] at *; omega) | decide | (unfold inI64; decide)); conv => whnf) | decide | assumption)
 refine CallX.of (sInsPl g cmp l (by omega) hcmp) [(1000001, 1000001)] rfl ⟨lr, lr, lr, lr, trivial⟩ ⟨rr, trivial⟩ rfl rfl ?_
 rintro x rout ⟨rfl, rfl⟩
 refine ⟨rfl, ?_⟩
 conv => whnf
 refine .ret _ ?_
 conv => whnf
 exact ⟨_, ⟨rfl, rfl⟩, rr, trivial⟩
theorem sSortPl (g : FuncId) (cmp : Plt → Plt → Int) (l : List Plt) (hl : l.length ≤ 12)
 (hcmp : ∀ p q, p ∈ l → q ∈ l → FSpec Tryz.prog g [.agg ((pltF p).map .d), .agg ((pltF q).map .d)] [] (fun y r => y = .d (.int .i64 (cmp p q)) ∧ r = [])) :
 FSpec Tryz.prog 138 [.buf 1000001, .fn g []] [(1000001, seqB 126 3 pltF plt0 l)]
  (fun y r => y = .tup [] ∧ r = [(1000001, seqB 126 3 pltF plt0 (isort cmp l))]) := by
 refine spec_of hT (C := []) Tryz.func138 rfl Tryz.call138 rfl rfl rfl ?_
 conv => whnf
 repeat' (first | (refine br_intro ?_ ?_ <;> intro hb <;> (try simp only [brs] at hb) <;> conv => whnf) | omega | (refine And.intro ?_ ?_; ((try dsimp only); first | omega | (refine szA rfl ?_; omega) | (refine szB rfl ?_; omega) | (unfold inI64; omega) | (simp only [lns] at *; omega) | decide | (unfold inI64; decide)); conv => whnf) | decide | assumption)
 refine CallX.of (sBitsLen l.length hl) [] rfl ⟨lr, trivial⟩ trivial rfl rfl ?_
 rintro x rout ⟨⟨lim, rfl⟩, rfl⟩
 refine ⟨rfl, ?_⟩
 conv => whnf
 repeat' (first | (refine br_intro ?_ ?_ <;> intro hb <;> (try simp only [brs] at hb) <;> conv => whnf) | omega | (refine And.intro ?_ ?_; ((try dsimp only); first | omega | (refine szA rfl ?_; omega) | (refine szB rfl ?_; omega) | (unfold inI64; omega) | (simp only [lns] at *; omega) | decide | (unfold inI64; decide)); conv => whnf) | decide | assumption)
 refine CallX.of (sPdqPl g cmp l hl lim hcmp) [(1000001, 1000001)] rfl ⟨lr, lr, lr, lr, lr, trivial⟩ ⟨rr, trivial⟩ rfl rfl ?_
 rintro x rout ⟨rfl, rfl⟩
 refine ⟨rfl, ?_⟩
 conv => whnf
 refine .ret _ ?_
 conv => whnf
 exact ⟨_, ⟨rfl, rfl⟩, rr, trivial⟩
theorem lookL_all {P : Res → Prop} : ∀ {l : List (Nat × Res)}, (∀ p ∈ l, P p.2) → ∀ c q, lookL l c = some q → P q := by
 intro l
 induction l with
 | nil => intro _ c q h; cases h
 | cons p l ih =>
   intro hp c q h
   simp only [lookL] at h
   by_cases e : c = p.1
   · subst e; simp at h; subst h; exact hp p (by simp)
   · rw [nbeq_ne e] at h; exact ih (fun x hx => hp x (by simp [hx])) c q h
theorem flat_pl (l : List Plt) : (pltB l).flat := fun _ _ => rfl
theorem flat_ve (l : List Veh) : (vehB l).flat := fun _ _ => rfl
theorem z21l (f : Flt) (hk : fltOk f) : FSpec Tryz.prog 21 [.agg [.buf 1, .d (clss f.cls), .buf 3, .buf 4]] [(1, staB f.sta), (3, vehB f.veh), (4, pltB f.plt)]
 (fun x r => x = .d (.int .i64 (fltE f)) ∧ r = [(1, staB f.sta), (3, vehB f.veh), (4, pltB f.plt)]) := by
 have h1 := FSpec.lend (args := [.agg [.d (stas f.sta), .d (clss f.cls), .d (vehs f.veh), .buf 4]]) 4 126 3 f.plt.length (rowF pltF plt0 f.plt) (z21 f hk) rfl (fun c r q => nomatch q) rfl
  (fun x r h => by obtain ⟨rfl, rfl⟩ := h; exact ⟨rfl, fun c q e => (nomatch e), rfl⟩)
 have h2 := FSpec.lend (args := [.agg [.d (stas f.sta), .d (clss f.cls), .buf 3, .buf 4]]) 3 124 2 f.veh.length (rowF vehF veh0 f.veh) h1 rfl
  (lookL_all (P := Res.isBuf) (fun p hp => by rw [List.mem_singleton] at hp; subst hp; exact trivial)) rfl
  (fun x r h => by obtain ⟨r0, ⟨rfl, rfl⟩, rfl⟩ := h; exact ⟨rfl, lookL_all (P := Res.flat) (fun p hp => by rw [List.mem_singleton] at hp; subst hp; exact flat_pl _), rfl⟩)
 have h3 := FSpec.lend (args := [.agg [.buf 1, .d (clss f.cls), .buf 3, .buf 4]]) 1 121 15 f.sta.length (rowF staF sta0 f.sta) h2 rfl
  (lookL_all (P := Res.isBuf) (fun p hp => by simp only [List.mem_cons, List.not_mem_nil, or_false] at hp; rcases hp with rfl | rfl <;> exact trivial)) rfl
  (fun x r h => by
    obtain ⟨r1, ⟨r0, ⟨rfl, rfl⟩, rfl⟩, rfl⟩ := h
    exact ⟨rfl, lookL_all (P := Res.flat) (fun p hp => by simp only [List.mem_cons, List.not_mem_nil, or_false] at hp; rcases hp with rfl | rfl; exact flat_ve _; exact flat_pl _), rfl⟩)
 exact h3.mono (fun x r h => by obtain ⟨r2, ⟨r1, ⟨r0, ⟨rfl, rfl⟩, rfl⟩, rfl⟩, rfl⟩ := h; exact ⟨rfl, rfl⟩)
def oTFlO57_8 : List (Nat × List Nat) := [(0, []), (1, []), (2, [0, 1]), (3, [0, 1, 2]), (4, [0, 1, 2]), (5, [0, 1, 2, 3, 4]), (6, [0, 1, 2, 3, 4, 5]), (7, [0, 1, 2, 3, 4, 5]), (8, [0, 1, 2, 3, 4, 5]), (9, [0, 1, 2, 3, 4]), (10, [0, 1, 2]), (11, [0, 1, 2]), (12, [0, 1, 2]), (13, [0, 1]), (14, [0, 1]), (15, []), (16, []), (17, [])]
def oTFlO57_13 : List (Nat × List Nat) := [(0, []), (1, [0]), (3, [0, 1]), (4, [0, 1]), (5, [0, 1, 3, 4]), (6, [0, 1, 3, 4, 5]), (7, [0, 1, 3, 4, 5]), (8, [0, 1, 3, 4, 5]), (13, [0, 1, 3, 4, 5, 6, 7, 8]), (14, [0, 1, 3, 4, 5, 6, 7, 8, 13]), (17, [0, 1, 3, 4, 5, 6, 7, 8, 13, 14]), (2, [3, 4, 5, 6, 7, 8, 13, 14, 17]), (9, [3, 4, 13, 14, 17]), (10, [13, 14, 17]), (11, [13, 14, 17]), (12, [13, 14, 17]), (15, [3, 4, 17, 10, 11, 12]), (16, [17]), (18, [])]
def oTFlO57_14 : List (Nat × List Nat) := [(0, []), (1, []), (3, [0, 1]), (4, [0, 1]), (2, [3, 4]), (5, []), (6, [])]
def v4 : List (List UInt8) := [[118, 49], [118, 50], [118, 51], [118, 52]]
def rfC (c : List Cls) : Res := .cells 31 [.buf 10, .d (clss c), .buf 20, .buf 30]
def rfC0 (c : List Cls) : Res := .cells 31 [.buf 10, .d (clss c), .buf 20, .d .nilsl]
def nlC : Res := .cells 31 [.d .nilsl, .d .nilsl, .d .nilsl, .d .nilsl]
def fltB (st : List Sta) (c : List Cls) (vs : List Veh) (ps : List Plt) : Prop := allK staK 3 st ∧ (c.length = 4 ∧ ∀ x ∈ c, clsK x) ∧ allK vehK 4 vs ∧ allK pltK 5 ps
theorem LoopX.shareX {α : Type} {P : Program} {c : Code} {Q : Exit → St → Prop} {G : Prop} (σ : α → St) (pre : α → Prop) (main : (∀ a, pre a → LoopX P c Q (σ a)) → G) (tail : ∀ a, pre a → LoopX P c Q (σ a)) : G := main tail
def sta1 : List Sta := [⟨[115, 49], fun _ => 0⟩]
set_option maxHeartbeats 4000000 in
theorem sRFlt (n : Nat) (L : Nat → Int) (hL : Rok n L) (a : Int) (h0 : 0 ≤ a) (ha : a ≤ 2^35) :
 FSpec Tryz.prog 57 [.ptr 1000000 0] [(1000000, strm n L a)] (fun y r => ∃ st cs vs ps, ∃ b, fltB st cs vs ps ∧ (a ≤ b ∧ b ≤ a + 400) ∧ y = .agg [.buf 10, .d (clss cs), .buf 20, .buf 30] ∧ r = [(10, staB st), (20, vehB vs), (30, pltB ps), (1000000, strm n L b)]) := by
 refine spec_of hT (C := [19]) Tryz.func57 rfl Tryz.call57 rfl rfl rfl ?_
 conv => whnf
 refine CallX.of (sStas n L hL a h0 (by omega)) [(1000000, 1000000), (3, 10)] rfl ⟨lr, trivial⟩ ⟨rr, trivial⟩ rfl rfl ?_
 rintro x rout ⟨st, b1, hst, ⟨b1a, b1b⟩, rfl, rfl⟩
 refine ⟨rfl, ?_⟩
 conv => whnf
 refine CallX.of (sClss n L hL b1 (by omega) (by omega)) [(1000000, 1000000), (9, 12)] rfl ⟨lr, trivial⟩ ⟨rr, trivial⟩ rfl rfl ?_
 rintro x rout ⟨cs, b2, hc, ⟨b2a, b2b⟩, rfl, rfl⟩
 refine ⟨rfl, ?_⟩
 conv => whnf
 refine' LoopX.shareX (P := Tryz.prog) (α := List Sta) (fun st => mkSt [(0, .ptr 1000000 0), (2, .ptr 2 0), (3, .ptr 3 0), (21, .d (strs v4)), (22, .d (.int .i64 4)), (23, .d (.int .i64 0))] [(1000000, strm n L b2), (2, nlC), (3, rfC0 cs), (10, staB st), (20, vehB [])]) (fun st => allK staK 3 st) ?main ?tail
 case main =>
  intro tail
  repeat' (first | (refine br_intro ?_ ?_ <;> intro hb <;> (try simp only [brs] at hb) <;> conv => whnf) | (refine RegX.rule (id := 8) hT rfl [] oTFlO57_8 (by decide +kernel) ?_; conv => whnf) | (refine RegX.rule (id := 13) hT rfl [] oTFlO57_13 (by decide +kernel) ?_; conv => whnf) | (refine RegX.rule (id := 14) hT rfl [] oTFlO57_14 (by decide +kernel) ?_; conv => whnf) | omega | (refine And.intro ?_ ?_; ((try dsimp only); first | omega | (refine szA rfl ?_; omega) | (refine szB rfl ?_; omega) | (unfold inI64; omega) | (simp only [lns] at *; omega) | decide | (unfold inI64; decide)); conv => whnf) | decide | assumption)
  · refine LoopX.freeze 12 201 2 _ _ rfl ?_
    refine LoopX.ent ?_ (tail sta1 ⟨by decide, by intro x hx; simp only [sta1, List.mem_singleton] at hx; subst hx; show _ ≤ 8; decide⟩)
    refine Entails.trans (Entails.froCell 3 12 2 _ 1 _ rfl rfl rfl) ?_
    refine Entails.trans (Entails.nilCell 3 20 124 2 2 (rowF vehF veh0 []) rfl rfl rfl (by decide) rfl) ?_
    exact (Entails.mk' [(1000000, 1000000), (2, 2), (3, 3), (10, 19), (20, 20)] rfl rfl ⟨lr, lr, lr, SV.le_lit rfl rfl, lr, lr, trivial⟩ ⟨rr, rr, Res.le_cellsL ⟨lr, lr, lr, lr, trivial⟩, Res.le_lit rfl rfl, rr, trivial⟩)
  · refine LoopX.freeze 12 201 2 _ _ rfl ?_
    refine LoopX.ent ?_ (tail st hst)
    refine Entails.trans (Entails.froCell 3 12 2 _ 1 _ rfl rfl rfl) ?_
    refine Entails.trans (Entails.nilCell 3 20 124 2 2 (rowF vehF veh0 []) rfl rfl rfl (by decide) rfl) ?_
    exact (Entails.mk' [(1000000, 1000000), (2, 2), (3, 3), (10, 10), (20, 20)] rfl rfl ⟨lr, lr, lr, SV.le_lit rfl rfl, lr, lr, trivial⟩ ⟨rr, rr, Res.le_cellsL ⟨lr, lr, lr, lr, trivial⟩, rr, rr, trivial⟩)
 clear hst st
 intro st hst
 refine LoopX.rule hT (C := []) (ι := Int × List Veh × Nat) (fun (b, vs, i) => (b2 ≤ b ∧ b ≤ b2 + 3 * i ∧ i ≤ 4) ∧ allK vehK i vs)
  (fun (b, vs, i) => mkSt [(0, .ptr 1000000 0), (2, .ptr 2 0), (3, .ptr 3 0), (21, .d (strs v4)), (22, .d (.int .i64 4)), (23, .d (.int .i64 i))] [(1000000, strm n L b), (2, nlC), (3, rfC0 cs), (10, staB st), (20, vehB vs)])
  (fun (_, _, i) => 4 - i) (b2, [], 0) ⟨⟨by simp, by simp, by simp⟩, ⟨by simp, by simp⟩⟩ (by (refine Entails.mk' [(1000000, 1000000), (2, 2), (3, 3), (10, 10), (20, 20)] rfl rfl ?_ ?_ <;> repeat' (first | exact True.intro | exact lr | exact rr | exact SV.le_int (by omega) | exact SV.le_any _ | refine And.intro ?_ ?_)); done) ?_
 rintro ⟨b, vs, i⟩ ⟨⟨p1, p2, p3⟩, p4⟩
 have p1 : b2 ≤ b := p1
 have p2 : b ≤ b2 + 3 * i := p2
 have p3 : i ≤ 4 := p3
 have p4 : allK vehK i vs := p4
 have hl1 : vs.length ≤ i := p4.1
 have hc4 := hc.1
 have hv4 : v4.length = 4 := rfl
 have e1 : (i : Int).toNat = i := Int.toNat_natCast i
 rcases Nat.lt_or_ge i 4 with hi | hi
 · conv => whnf
   repeat' (first | (refine CallX.of (s84 n L hL _ ?_ ?_ 6 ?_) [(1000000, 1000000)] rfl ⟨lr, lr, trivial⟩ ⟨rr, trivial⟩ rfl rfl ?_; rotate_right; rintro x rout ⟨⟨w, rfl⟩, ⟨c, c1, c2, rfl⟩⟩; refine ⟨rfl, ?_⟩; conv => whnf) | (refine CallX.of (s86 n L hL _ ?_ ?_ _ ?_) [(1000000, 1000000)] rfl ⟨lr, lr, trivial⟩ ⟨rr, trivial⟩ rfl rfl ?_; rotate_right; rintro x rout ⟨⟨j, hj1, hj2, hj3, rfl⟩, ⟨c, c1, c2, rfl⟩⟩; refine ⟨rfl, ?_⟩; conv => whnf) | (refine br_intro ?_ ?_ <;> intro hb <;> (try simp only [brs] at hb) <;> conv => whnf) | (refine RegX.rule (id := 8) hT rfl [] oTFlO57_8 (by decide +kernel) ?_; conv => whnf) | (refine RegX.rule (id := 13) hT rfl [] oTFlO57_13 (by decide +kernel) ?_; conv => whnf) | (refine RegX.rule (id := 14) hT rfl [] oTFlO57_14 (by decide +kernel) ?_; conv => whnf) | omega | (refine And.intro ?_ ?_; ((try dsimp only); first | omega | (refine szA rfl ?_; omega) | (refine szB rfl ?_; omega) | (unfold inI64; omega) | (simp only [lns] at *; omega) | decide | (unfold inI64; decide)); conv => whnf) | decide | assumption)
   all_goals try (exfalso; omega)
   · have hk1 : (v4.getD (i : Int).toNat []).length ≤ 8 := mem_len (getD_mem (by omega)) rfl
     have hk2 := (hc.2 (cs.getD j.toNat cls0) (getD_mem (by omega))).1
     exact ⟨(c + 1, vs ++ [⟨v4.getD (i : Int).toNat [], (cs.getD j.toNat cls0).key⟩], i + 1), ⟨⟨by omega, by show _ ≤ b2 + 3 * ((i + 1 : Nat) : Int); omega, by omega⟩, allK_snoc p4 (by omega) ⟨hk1, hk2⟩⟩, by show 4 - (i + 1) < 4 - i; omega,
      Entails.mk' [(1000000, 1000000), (2, 2), (3, 3), (10, 10), (20, 45)] rfl rfl ⟨lr, lr, lr, lr, lr, lr, trivial⟩ ⟨rr, rr, rr, rr, Res.le_snocF rfl, trivial⟩⟩
   · exact ⟨(c, vs, i + 1), ⟨⟨by omega, by show _ ≤ b2 + 3 * ((i + 1 : Nat) : Int); omega, by omega⟩, allK_le p4 (by omega)⟩, by show 4 - (i + 1) < 4 - i; omega, (by (refine Entails.mk' [(1000000, 1000000), (2, 2), (3, 3), (10, 10), (20, 20)] rfl rfl ?_ ?_ <;> repeat' (first | exact True.intro | exact lr | exact rr | exact SV.le_int (by omega) | exact SV.le_any _ | refine And.intro ?_ ?_)); done)⟩
 have hi4 : i = 4 := by omega
 subst hi4
 have hb3 : b ≤ b2 + 12 := by omega
 have p4v := p4
 have hlv : vs.length ≤ 4 := p4.1
 conv => whnf
 repeat' (first | (refine CallX.of (s64 n L hL _ ?_ ?_ 0 5 ?_ ?_ ?_ ?_) [(1000000, 1000000)] rfl ⟨lr, lr, lr, trivial⟩ ⟨rr, trivial⟩ rfl rfl ?_; rotate_right; rintro x rout ⟨⟨m, hm1, hm2, rfl⟩, ⟨c, c1, c2, rfl⟩⟩; refine ⟨rfl, ?_⟩; conv => whnf) | (refine br_intro ?_ ?_ <;> intro hb <;> (try simp only [brs] at hb) <;> conv => whnf) | (refine RegX.rule (id := 8) hT rfl [] oTFlO57_8 (by decide +kernel) ?_; conv => whnf) | (refine RegX.rule (id := 13) hT rfl [] oTFlO57_13 (by decide +kernel) ?_; conv => whnf) | (refine RegX.rule (id := 14) hT rfl [] oTFlO57_14 (by decide +kernel) ?_; conv => whnf) | omega | (refine And.intro ?_ ?_; ((try dsimp only); first | omega | (refine szA rfl ?_; omega) | (refine szB rfl ?_; omega) | (unfold inI64; omega) | (simp only [lns] at *; omega) | decide | (unfold inI64; decide)); conv => whnf) | decide | assumption)
 all_goals try (exfalso; omega)
 obtain ⟨b3, rfl⟩ : ∃ b3 : Int, b3 = c := ⟨_, rfl⟩
 refine LoopX.rule hT (C := []) (ι := Int × List Plt × Nat) (fun (b, ps, i) => (b3 ≤ b ∧ b ≤ b3 + 6 * i ∧ (i : Int) ≤ m) ∧ allK pltK i ps)
  (fun (b, ps, i) => mkSt [(0, .ptr 1000000 0), (2, .ptr 2 0), (3, .ptr 3 0), (49, .d (.int .i64 m)), (50, .d (.int .i64 i))] [(1000000, strm n L b), (2, nlC), (3, rfC cs), (10, staB st), (20, vehB vs), (30, pltB ps)])
  (fun (_, _, i) => (m - i).toNat) (b3, [], 0) ⟨⟨by simp, by simp, by simpa using hm1⟩, ⟨by simp, by simp⟩⟩ ?_ ?_
 · refine Entails.trans (Entails.nilCell 3 30 126 3 3 (rowF pltF plt0 []) rfl rfl rfl (by decide) rfl) ?_
   exact (by (refine Entails.mk' [(1000000, 1000000), (2, 2), (3, 3), (10, 10), (20, 20), (30, 30)] rfl rfl ?_ ?_ <;> repeat' (first | exact True.intro | exact lr | exact rr | exact SV.le_int (by omega) | exact SV.le_any _ | refine And.intro ?_ ?_)); done)
 rintro ⟨b, ps, i⟩ ⟨⟨p1, p2, p3⟩, p4⟩
 have p1 : b3 ≤ b := p1
 have p2 : b ≤ b3 + 6 * i := p2
 have p3 : (i : Int) ≤ m := p3
 have p4 : allK pltK i ps := p4
 have hl2 : ps.length ≤ i := p4.1
 rcases Int.lt_or_le (i : Int) m with hi | hi
 · conv => whnf
   repeat' (first | (refine CallX.of (s33 n L hL _ ?_ ?_ [0, 0, 50, 100, 200, 1000] ?_ ?_) [(1000000, 1000000)] rfl ⟨lr, SV.le_lit rfl rfl, trivial⟩ ⟨rr, trivial⟩ rfl rfl ?_; rotate_right; rintro x rout ⟨⟨u1, hu1, rfl⟩, ⟨c, c1, c2, rfl⟩⟩; have hw1 := pkD hu1 (by decide); refine ⟨rfl, ?_⟩; conv => whnf) | (refine CallX.of (s86 n L hL _ ?_ ?_ _ ?_) [(1000000, 1000000)] rfl ⟨lr, lr, trivial⟩ ⟨rr, trivial⟩ rfl rfl ?_; rotate_right; rintro x rout ⟨⟨j, hj1, hj2, hj3, rfl⟩, ⟨c, c1, c2, rfl⟩⟩; refine ⟨rfl, ?_⟩; conv => whnf) | (refine CallX.of (s15 n L hL _ ?_ ?_ [[65, 66, 49], [65, 66, 50], [90, 90, 57]] (by simp) (by simp)) [(1000000, 1000000)] rfl ⟨lr, SV.le_lit rfl rfl, trivial⟩ ⟨rr, trivial⟩ rfl rfl ?_; rotate_right; rintro x rout ⟨⟨u3, hu3, rfl⟩, ⟨c, c1, c2, rfl⟩⟩; have hw3 := mem_len hu3 rfl; refine ⟨rfl, ?_⟩; conv => whnf) | (refine br_intro ?_ ?_ <;> intro hb <;> (try simp only [brs] at hb) <;> conv => whnf) | (refine RegX.rule (id := 8) hT rfl [] oTFlO57_8 (by decide +kernel) ?_; conv => whnf) | (refine RegX.rule (id := 13) hT rfl [] oTFlO57_13 (by decide +kernel) ?_; conv => whnf) | (refine RegX.rule (id := 14) hT rfl [] oTFlO57_14 (by decide +kernel) ?_; conv => whnf) | omega | (refine And.intro ?_ ?_; ((try dsimp only); first | omega | (refine szA rfl ?_; omega) | (refine szB rfl ?_; omega) | (unfold inI64; omega) | (simp only [lns] at *; omega) | decide | (unfold inI64; decide)); conv => whnf) | decide | assumption)
   · refine .ret _ ?_
     conv => whnf
     exact ⟨[(10, staB st), (20, vehB vs), (30, pltB ps), (1000000, strm n L b)], ⟨st, cs, vs, ps, b, ⟨hst, hc, p4v, allK_le p4 (by omega)⟩, ⟨by omega, by omega⟩, rfl, rfl⟩, rr, rr, rr, rr, trivial⟩
   have hpk : pltK ⟨u1, (vs.getD j.toNat veh0).key, u3⟩ := ⟨⟨by show (-2^40 : Int) ≤ u1; omega, by show u1 ≤ 2^40; omega⟩, (p4v.2 _ (getD_mem (by omega))).1, by show u3.length ≤ 16; omega⟩
   have hps := allK_snoc p4 (show i + 1 ≤ 12 by omega) hpk
   have hcS := sSortPl 139 rfCmp (ps ++ [⟨u1, (vs.getD j.toNat veh0).key, u3⟩]) hps.1 (fun p q hp hq => z139 p q (hps.2 _ hp) (hps.2 _ hq))
   obtain ⟨QS, hQS⟩ : ∃ QS, QS = isort rfCmp (ps ++ [⟨u1, (vs.getD j.toNat veh0).key, u3⟩]) := ⟨_, rfl⟩
   have hq := hps
   have hQ : allK pltK (i + 1) QS := by
    have hp := isort_perm rfCmp (ps ++ [⟨u1, (vs.getD j.toNat veh0).key, u3⟩])
    rw [← hQS] at hp
    exact ⟨by rw [hp.length_eq, List.length_append]; show ps.length + 1 ≤ i + 1; omega, fun x hx => hps.2 x (hp.mem_iff.1 hx)⟩
   have hok : fltOk ⟨st, cs, vs, QS⟩ := ⟨⟨Nat.le_trans hst.1 (by decide), fun s hs => Nat.le_trans (hst.2 s hs) (by decide)⟩, ⟨by show cs.length ≤ 2^20; omega, fun s hs => ⟨Nat.le_trans (hc.2 s hs).1 (by decide), Nat.le_trans (hc.2 s hs).2 (by decide)⟩⟩,
    ⟨by show vs.length ≤ 2^20; omega, fun s hs => ⟨Nat.le_trans (p4v.2 s hs).1 (by decide), Nat.le_trans (p4v.2 s hs).2 (by decide)⟩⟩, ⟨by show QS.length ≤ 2^20; have := hQ.1; omega, fun s hs => ⟨(hQ.2 s hs).1, Nat.le_trans (hQ.2 s hs).2.1 (by decide), Nat.le_trans (hQ.2 s hs).2.2 (by decide)⟩⟩⟩
   rw [← hQS] at hcS
   refine CallX.of (z137 ps (by omega)) [(1000001, 30), (7, 75)] rfl ⟨lr, trivial⟩ ⟨rr, trivial⟩ rfl rfl ?_
   rintro x rout (⟨rfl, hnil, rfl⟩ | ⟨rfl, rfl⟩)
   · have hnil2 := hnil
     rw [hnil] at hcS
     refine ⟨rfl, ?_⟩
     conv => whnf
     repeat' (first | (refine br_intro ?_ ?_ <;> intro hb <;> (try simp only [brs] at hb) <;> conv => whnf) | (refine RegX.rule (id := 8) hT rfl [] oTFlO57_8 (by decide +kernel) ?_; conv => whnf) | (refine RegX.rule (id := 13) hT rfl [] oTFlO57_13 (by decide +kernel) ?_; conv => whnf) | (refine RegX.rule (id := 14) hT rfl [] oTFlO57_14 (by decide +kernel) ?_; conv => whnf) | omega | (refine And.intro ?_ ?_; ((try dsimp only); first | omega | (refine szA rfl ?_; omega) | (refine szB rfl ?_; omega) | (unfold inI64; omega) | (simp only [lns] at *; omega) | decide | (unfold inI64; decide)); conv => whnf) | decide | assumption)
     refine CallX.of hcS [(1000001, 78)] rfl ⟨lr, lr, trivial⟩ ⟨Res.le_lit rfl rfl, trivial⟩ rfl rfl ?_
     rintro x rout ⟨rfl, rfl⟩
     refine ⟨rfl, ?_⟩
     conv => whnf
     repeat' (first | (refine br_intro ?_ ?_ <;> intro hb <;> (try simp only [brs] at hb) <;> conv => whnf) | (refine RegX.rule (id := 8) hT rfl [] oTFlO57_8 (by decide +kernel) ?_; conv => whnf) | (refine RegX.rule (id := 13) hT rfl [] oTFlO57_13 (by decide +kernel) ?_; conv => whnf) | (refine RegX.rule (id := 14) hT rfl [] oTFlO57_14 (by decide +kernel) ?_; conv => whnf) | omega | (refine And.intro ?_ ?_; ((try dsimp only); first | omega | (refine szA rfl ?_; omega) | (refine szB rfl ?_; omega) | (unfold inI64; omega) | (simp only [lns] at *; omega) | decide | (unfold inI64; decide)); conv => whnf) | decide | assumption)
     refine CallX.of (z21l ⟨st, cs, vs, QS⟩ hok) [(1, 10), (3, 20), (4, 78)] rfl ⟨lr, trivial⟩ ⟨rr, rr, rr, trivial⟩ rfl rfl ?_
     rintro x rout ⟨rfl, rfl⟩
     refine ⟨rfl, ?_⟩
     conv => whnf
     repeat' (first | (refine br_intro ?_ ?_ <;> intro hb <;> (try simp only [brs] at hb) <;> conv => whnf) | (refine RegX.rule (id := 8) hT rfl [] oTFlO57_8 (by decide +kernel) ?_; conv => whnf) | (refine RegX.rule (id := 13) hT rfl [] oTFlO57_13 (by decide +kernel) ?_; conv => whnf) | (refine RegX.rule (id := 14) hT rfl [] oTFlO57_14 (by decide +kernel) ?_; conv => whnf) | omega | (refine And.intro ?_ ?_; ((try dsimp only); first | omega | (refine szA rfl ?_; omega) | (refine szB rfl ?_; omega) | (unfold inI64; omega) | (simp only [lns] at *; omega) | decide | (unfold inI64; decide)); conv => whnf) | decide | assumption)
     · exact ⟨(c, QS, i + 1), ⟨⟨by omega, by show _ ≤ b3 + 6 * ((i + 1 : Nat) : Int); omega, by show ((i + 1 : Nat) : Int) ≤ m; omega⟩, hQ⟩, by show (m - ((i + 1 : Nat) : Int)).toNat < (m - (i : Int)).toNat; omega, (by (refine Entails.mk' [(1000000, 1000000), (2, 2), (3, 3), (10, 10), (20, 20), (30, 78)] rfl rfl ?_ ?_ <;> repeat' (first | exact True.intro | exact lr | exact rr | exact SV.le_int (by omega) | exact SV.le_any _ | refine And.intro ?_ ?_)); done)⟩
     · exact ⟨(c, ps, i + 1), ⟨⟨by omega, by show _ ≤ b3 + 6 * ((i + 1 : Nat) : Int); omega, by show ((i + 1 : Nat) : Int) ≤ m; omega⟩, allK_le p4 (by omega)⟩, by show (m - ((i + 1 : Nat) : Int)).toNat < (m - (i : Int)).toNat; omega, (by (refine Entails.mk' [(1000000, 1000000), (2, 2), (3, 3), (10, 10), (20, 20), (30, 30)] rfl rfl ?_ ?_ <;> repeat' (first | exact True.intro | exact lr | exact rr | exact SV.le_int (by omega) | exact SV.le_any _ | refine And.intro ?_ ?_)); done)⟩
   · refine ⟨rfl, ?_⟩
     conv => whnf
     repeat' (first | (refine br_intro ?_ ?_ <;> intro hb <;> (try simp only [brs] at hb) <;> conv => whnf) | (refine RegX.rule (id := 8) hT rfl [] oTFlO57_8 (by decide +kernel) ?_; conv => whnf) | (refine RegX.rule (id := 13) hT rfl [] oTFlO57_13 (by decide +kernel) ?_; conv => whnf) | (refine RegX.rule (id := 14) hT rfl [] oTFlO57_14 (by decide +kernel) ?_; conv => whnf) | omega | (refine And.intro ?_ ?_; ((try dsimp only); first | omega | (refine szA rfl ?_; omega) | (refine szB rfl ?_; omega) | (unfold inI64; omega) | (simp only [lns] at *; omega) | decide | (unfold inI64; decide)); conv => whnf) | decide | assumption)
     refine CallX.of hcS [(1000001, 78)] rfl ⟨lr, lr, trivial⟩ ⟨Res.le_snocF rfl, trivial⟩ rfl rfl ?_
     rintro x rout ⟨rfl, rfl⟩
     refine ⟨rfl, ?_⟩
     conv => whnf
     repeat' (first | (refine br_intro ?_ ?_ <;> intro hb <;> (try simp only [brs] at hb) <;> conv => whnf) | (refine RegX.rule (id := 8) hT rfl [] oTFlO57_8 (by decide +kernel) ?_; conv => whnf) | (refine RegX.rule (id := 13) hT rfl [] oTFlO57_13 (by decide +kernel) ?_; conv => whnf) | (refine RegX.rule (id := 14) hT rfl [] oTFlO57_14 (by decide +kernel) ?_; conv => whnf) | omega | (refine And.intro ?_ ?_; ((try dsimp only); first | omega | (refine szA rfl ?_; omega) | (refine szB rfl ?_; omega) | (unfold inI64; omega) | (simp only [lns] at *; omega) | decide | (unfold inI64; decide)); conv => whnf) | decide | assumption)
     refine CallX.of (z21l ⟨st, cs, vs, QS⟩ hok) [(1, 10), (3, 20), (4, 78)] rfl ⟨lr, trivial⟩ ⟨rr, rr, rr, trivial⟩ rfl rfl ?_
     rintro x rout ⟨rfl, rfl⟩
     refine ⟨rfl, ?_⟩
     conv => whnf
     repeat' (first | (refine br_intro ?_ ?_ <;> intro hb <;> (try simp only [brs] at hb) <;> conv => whnf) | (refine RegX.rule (id := 8) hT rfl [] oTFlO57_8 (by decide +kernel) ?_; conv => whnf) | (refine RegX.rule (id := 13) hT rfl [] oTFlO57_13 (by decide +kernel) ?_; conv => whnf) | (refine RegX.rule (id := 14) hT rfl [] oTFlO57_14 (by decide +kernel) ?_; conv => whnf) | omega | (refine And.intro ?_ ?_; ((try dsimp only); first | omega | (refine szA rfl ?_; omega) | (refine szB rfl ?_; omega) | (unfold inI64; omega) | (simp only [lns] at *; omega) | decide | (unfold inI64; decide)); conv => whnf) | decide | assumption)
     · exact ⟨(c, QS, i + 1), ⟨⟨by omega, by show _ ≤ b3 + 6 * ((i + 1 : Nat) : Int); omega, by show ((i + 1 : Nat) : Int) ≤ m; omega⟩, hQ⟩, by show (m - ((i + 1 : Nat) : Int)).toNat < (m - (i : Int)).toNat; omega, (by (refine Entails.mk' [(1000000, 1000000), (2, 2), (3, 3), (10, 10), (20, 20), (30, 78)] rfl rfl ?_ ?_ <;> repeat' (first | exact True.intro | exact lr | exact rr | exact SV.le_int (by omega) | exact SV.le_any _ | refine And.intro ?_ ?_)); done)⟩
     · exact ⟨(c, ps, i + 1), ⟨⟨by omega, by show _ ≤ b3 + 6 * ((i + 1 : Nat) : Int); omega, by show ((i + 1 : Nat) : Int) ≤ m; omega⟩, allK_le p4 (by omega)⟩, by show (m - ((i + 1 : Nat) : Int)).toNat < (m - (i : Int)).toNat; omega, (by (refine Entails.mk' [(1000000, 1000000), (2, 2), (3, 3), (10, 10), (20, 20), (30, 30)] rfl rfl ?_ ?_ <;> repeat' (first | exact True.intro | exact lr | exact rr | exact SV.le_int (by omega) | exact SV.le_any _ | refine And.intro ?_ ?_)); done)⟩
 have him : (i : Int) = m := by omega
 conv => whnf
 repeat' (first | (refine br_intro ?_ ?_ <;> intro hb <;> (try simp only [brs] at hb) <;> conv => whnf) | (refine RegX.rule (id := 8) hT rfl [] oTFlO57_8 (by decide +kernel) ?_; conv => whnf) | (refine RegX.rule (id := 13) hT rfl [] oTFlO57_13 (by decide +kernel) ?_; conv => whnf) | (refine RegX.rule (id := 14) hT rfl [] oTFlO57_14 (by decide +kernel) ?_; conv => whnf) | omega | (refine And.intro ?_ ?_; ((try dsimp only); first | omega | (refine szA rfl ?_; omega) | (refine szB rfl ?_; omega) | (unfold inI64; omega) | (simp only [lns] at *; omega) | decide | (unfold inI64; decide)); conv => whnf) | decide | assumption)
 all_goals try (exfalso; omega)
 refine .ret _ ?_
 conv => whnf
 exact ⟨[(10, staB st), (20, vehB vs), (30, pltB ps), (1000000, strm n L b)], ⟨st, cs, vs, ps, b, ⟨hst, hc, p4v, allK_le p4 (by omega)⟩, ⟨by omega, by omega⟩, rfl, rfl⟩, rr, rr, rr, rr, trivial⟩
def oTFlP10_7 : List (Nat × List Nat) := [(0, []), (1, []), (2, [0, 1]), (3, [0, 1, 2]), (4, [0, 1]), (5, [0, 1]), (6, [0, 1]), (7, []), (8, []), (9, [])]
def oTFlP10_11 : List (Nat × List Nat) := [(0, []), (1, []), (2, [0, 1]), (3, [0, 1, 2]), (5, [0, 1, 2, 3]), (4, [0, 1, 5]), (6, [0, 1]), (7, [0, 1]), (8, [0, 1]), (9, []), (10, []), (11, [])]
def oTFlP10_5 : List (Nat × List Nat) := [(0, []), (1, []), (2, [0, 1]), (4, [0, 1, 2]), (5, [0, 1, 2, 4]), (7, [0, 1, 2, 4, 5]), (8, [0, 1, 2, 4, 5, 7]), (3, [0, 1, 4, 5, 7, 8]), (6, [0, 1, 7, 8]), (9, [0, 1]), (10, [0, 1]), (11, [0, 1]), (12, []), (13, []), (14, [])]
structure fltK (f : Flt) : Prop where
 sta : allK staK 4 f.sta
 cls : clsB f.cls
 veh : allK vehK 5 f.veh
 plt : allK pltK 6 f.plt
theorem fltK.ok {f : Flt} (h : fltK f) : fltOk f :=
 ⟨⟨Nat.le_trans h.sta.1 (by decide), fun s hs => Nat.le_trans (h.sta.2 s hs) (by decide)⟩, ⟨Nat.le_trans h.cls.1 (by decide), fun s hs => ⟨Nat.le_trans (h.cls.2 s hs).1 (by decide), Nat.le_trans (h.cls.2 s hs).2 (by decide)⟩⟩,
   ⟨Nat.le_trans h.veh.1 (by decide), fun s hs => ⟨Nat.le_trans (h.veh.2 s hs).1 (by decide), Nat.le_trans (h.veh.2 s hs).2 (by decide)⟩⟩, ⟨Nat.le_trans h.plt.1 (by decide), fun s hs => ⟨(h.plt.2 s hs).1, Nat.le_trans (h.plt.2 s hs).2.1 (by decide), Nat.le_trans (h.plt.2 s hs).2.2 (by decide)⟩⟩⟩
set_option maxHeartbeats 4000000 in
theorem sFlt (n : Nat) (L : Nat → Int) (hL : Rok n L) (a : Int) (h0 : 0 ≤ a) (ha : a ≤ 2^34) :
 FSpec Tryz.prog 10 [.ptr 1000000 0] [(1000000, strm n L a)] (fun y r => (∃ f : Flt, fltK f ∧ y = flt f) ∧ Moved n L a 600 r) := by
 refine spec_of hT (C := []) Tryz.func10 rfl Tryz.call10 rfl rfl rfl ?_
 conv => whnf
 refine CallX.of (sRFlt n L hL a h0 (by omega)) [(1000000, 1000000), (10, 10), (20, 20), (30, 30)] rfl ⟨lr, trivial⟩ ⟨rr, trivial⟩ rfl rfl ?_
 rintro x rout ⟨st, cs, vs, ps, b, ⟨k1, k2, k3, k4⟩, ⟨b1, b2⟩, rfl, rfl⟩
 have k1l := k1.1
 have k3l := k3.1
 have k4l := k4.1
 have k2c : clsB cs := ⟨by have := k2.1; omega, k2.2⟩
 refine ⟨rfl, ?_⟩
 conv => whnf
 repeat' (first | (refine CallX.of (s84 n L hL _ ?_ ?_ 12 ?_) [(1000000, 1000000)] rfl ⟨lr, lr, trivial⟩ ⟨rr, trivial⟩ rfl rfl ?_; rotate_right; rintro x rout ⟨⟨w, rfl⟩, ⟨c, c1, c2, rfl⟩⟩; refine ⟨rfl, ?_⟩; conv => whnf) | (refine CallX.of (s86 n L hL _ ?_ ?_ 4 ?_) [(1000000, 1000000)] rfl ⟨lr, lr, trivial⟩ ⟨rr, trivial⟩ rfl rfl ?_; rotate_right; rintro x rout ⟨⟨j, hj1, hj2, hj3, rfl⟩, ⟨c, c1, c2, rfl⟩⟩; refine ⟨rfl, ?_⟩; conv => whnf) | (refine CallX.of (s15 n L hL _ ?_ ?_ [[], [65], [115, 49], [115, 57]] (by simp) (by simp)) [(1000000, 1000000)] rfl ⟨lr, SV.le_lit rfl rfl, trivial⟩ ⟨rr, trivial⟩ rfl rfl ?_; rotate_right; rintro x rout ⟨⟨u1, hu1, rfl⟩, ⟨c, c1, c2, rfl⟩⟩; have hw1 := mem_len16 hu1 rfl; refine ⟨rfl, ?_⟩; conv => whnf) | (refine CallX.of (s15 n L hL _ ?_ ?_ [[], [118, 49], [118, 57]] (by simp) (by simp)) [(1000000, 1000000)] rfl ⟨lr, SV.le_lit rfl rfl, trivial⟩ ⟨rr, trivial⟩ rfl rfl ?_; rotate_right; rintro x rout ⟨⟨u2, hu2, rfl⟩, ⟨c, c1, c2, rfl⟩⟩; have hw2 := mem_len hu2 rfl; refine ⟨rfl, ?_⟩; conv => whnf) | (refine CallX.of (s15 n L hL _ ?_ ?_ [[118, 49], [110, 111, 110, 101]] (by simp) (by simp)) [(1000000, 1000000)] rfl ⟨lr, SV.le_lit rfl rfl, trivial⟩ ⟨rr, trivial⟩ rfl rfl ?_; rotate_right; rintro x rout ⟨⟨u3, hu3, rfl⟩, ⟨c, c1, c2, rfl⟩⟩; have hw3 := mem_len hu3 rfl; refine ⟨rfl, ?_⟩; conv => whnf) | (refine CallX.of (s15 n L hL _ ?_ ?_ [[65, 66, 49], [97, 49], [65], [65, 66, 67, 68, 69, 70, 71, 72, 73, 74, 49], [65, 66, 49]] (by simp) (by simp)) [(1000000, 1000000)] rfl ⟨lr, SV.le_lit rfl rfl, trivial⟩ ⟨rr, trivial⟩ rfl rfl ?_; rotate_right; rintro x rout ⟨⟨u4, hu4, rfl⟩, ⟨c, c1, c2, rfl⟩⟩; have hw4 := mem_len16 hu4 rfl; refine ⟨rfl, ?_⟩; conv => whnf) | (refine CallX.of (s104 n L hL _ ?_ ?_ 0 2000 ?_ ?_ ?_) [(1000000, 1000000)] rfl ⟨lr, lr, lr, trivial⟩ ⟨rr, trivial⟩ rfl rfl ?_; rotate_right; rintro x rout ⟨⟨o, ho1, ho2, rfl⟩, ⟨c, c1, c2, rfl⟩⟩; refine ⟨rfl, ?_⟩; conv => whnf) | (refine CallX.of (sClsKey n L hL _ ?_ ?_) [(1000000, 1000000)] rfl ⟨lr, trivial⟩ ⟨rr, trivial⟩ rfl rfl ?_; rotate_right; rintro x rout ⟨⟨u5, hu5, rfl⟩, ⟨c, c1, c2, rfl⟩⟩; refine ⟨rfl, ?_⟩; conv => whnf) | (refine CallX.of (sAnyCls n L hL _ ?_ ?_) [(1000000, 1000000)] rfl ⟨lr, trivial⟩ ⟨rr, trivial⟩ rfl rfl ?_; rotate_right; rintro x rout ⟨⟨cn, hcn, rfl⟩, ⟨c, c1, c2, rfl⟩⟩; refine ⟨rfl, ?_⟩; conv => whnf) | (refine br_intro ?_ ?_ <;> intro hb <;> (try simp only [brs] at hb) <;> conv => whnf) | (refine RegX.rule (id := 7) hT rfl [] oTFlP10_7 (by decide +kernel) ?_; conv => whnf) | (refine RegX.rule (id := 11) hT rfl [] oTFlP10_11 (by decide +kernel) ?_; conv => whnf) | (refine RegX.rule (id := 5) hT rfl [] oTFlP10_5 (by decide +kernel) ?_; conv => whnf) | omega | (refine And.intro ?_ ?_; ((try dsimp only); first | omega | (refine szA rfl ?_; omega) | (refine szB rfl ?_; omega) | (unfold inI64; omega) | (simp only [lns] at *; omega) | decide | (unfold inI64; decide)); conv => whnf) | decide | assumption)
 · refine .freeze _ 10 121 15 _ _ rfl (.freeze _ 20 124 2 _ _ rfl (.freeze _ 30 126 3 _ _ rfl ?_))
   refine .ent _ _ (Entails.froCell 2 10 15 _ 0 _ rfl rfl rfl) ?_
   refine .ent _ _ (Entails.froCell 2 20 2 _ 2 _ rfl rfl rfl) ?_
   refine .ent _ _ (Entails.froCell 2 30 3 _ 3 _ rfl rfl rfl) ?_
   refine .weak _ ?_
   conv => whnf
   exact ⟨flt ⟨st, cs, vs, ps⟩, [(1000000, strm n L _)], SV.le_agg ⟨lr, lr, lr, lr, trivial⟩, ⟨⟨⟨st, cs, vs, ps⟩, ⟨allK_le k1 (by omega), k2c, allK_le k3 (by omega), allK_le k4 (by omega)⟩, rfl⟩, _, by omega, by omega, rfl⟩, rr, trivial⟩
 · refine .freeze _ 35 121 15 _ _ rfl (.freeze _ 20 124 2 _ _ rfl (.freeze _ 30 126 3 _ _ rfl ?_))
   refine .ent _ _ (Entails.froCell 2 35 15 _ 0 _ rfl rfl rfl) ?_
   refine .ent _ _ (Entails.froCell 2 20 2 _ 2 _ rfl rfl rfl) ?_
   refine .ent _ _ (Entails.froCell 2 30 3 _ 3 _ rfl rfl rfl) ?_
   refine .weak _ ?_
   conv => whnf
   exact ⟨flt ⟨st ++ [⟨u1, fun _ => 0⟩], cs, vs, ps⟩, [(1000000, strm n L _)], SV.le_agg ⟨SV.le_snocF rfl, lr, lr, lr, trivial⟩, ⟨⟨⟨st ++ [⟨u1, fun _ => 0⟩], cs, vs, ps⟩, ⟨allK_snoc k1 (by omega) (by show u1.length ≤ 8; exact mem_len hu1 rfl), k2c, allK_le k3 (by omega), allK_le k4 (by omega)⟩, rfl⟩, _, by omega, by omega, rfl⟩, rr, trivial⟩
 · refine .freeze _ 10 121 15 _ _ rfl (.freeze _ 20 124 2 _ _ rfl (.freeze _ 30 126 3 _ _ rfl ?_))
   refine .ent _ _ (Entails.froCell 2 10 15 _ 0 _ rfl rfl rfl) ?_
   refine .ent _ _ (Entails.froCell 2 20 2 _ 2 _ rfl rfl rfl) ?_
   refine .ent _ _ (Entails.froCell 2 30 3 _ 3 _ rfl rfl rfl) ?_
   refine .weak _ ?_
   conv => whnf
   exact ⟨flt ⟨st, cn, vs, ps⟩, [(1000000, strm n L _)], SV.le_agg ⟨lr, lr, lr, lr, trivial⟩, ⟨⟨⟨st, cn, vs, ps⟩, ⟨allK_le k1 (by omega), hcn, allK_le k3 (by omega), allK_le k4 (by omega)⟩, rfl⟩, _, by omega, by omega, rfl⟩, rr, trivial⟩
 · refine .freeze _ 10 121 15 _ _ rfl (.freeze _ 53 124 2 _ _ rfl (.freeze _ 30 126 3 _ _ rfl ?_))
   refine .ent _ _ (Entails.froCell 2 10 15 _ 0 _ rfl rfl rfl) ?_
   refine .ent _ _ (Entails.froCell 2 53 2 _ 2 _ rfl rfl rfl) ?_
   refine .ent _ _ (Entails.froCell 2 30 3 _ 3 _ rfl rfl rfl) ?_
   refine .weak _ ?_
   conv => whnf
   exact ⟨flt ⟨st, cs, vs ++ [⟨u2, u5⟩], ps⟩, [(1000000, strm n L _)], SV.le_agg ⟨lr, lr, SV.le_snocF rfl, lr, trivial⟩, ⟨⟨⟨st, cs, vs ++ [⟨u2, u5⟩], ps⟩, ⟨allK_le k1 (by omega), k2c, allK_snoc k3 (by omega) ⟨hw2, hu5⟩, allK_le k4 (by omega)⟩, rfl⟩, _, by omega, by omega, rfl⟩, rr, trivial⟩
 · refine .freeze _ 10 121 15 _ _ rfl (.freeze _ 20 124 2 _ _ rfl (.freeze _ 24 126 3 _ _ rfl ?_))
   refine .ent _ _ (Entails.froCell 2 10 15 _ 0 _ rfl rfl rfl) ?_
   refine .ent _ _ (Entails.froCell 2 20 2 _ 2 _ rfl rfl rfl) ?_
   refine .ent _ _ (Entails.froCell 2 24 3 _ 3 _ rfl rfl rfl) ?_
   refine .weak _ ?_
   conv => whnf
   exact ⟨flt ⟨st, cs, vs, ps ++ [⟨o, u3, u4⟩]⟩, [(1000000, strm n L _)], SV.le_agg ⟨lr, lr, lr, SV.le_snocF rfl, trivial⟩, ⟨⟨⟨st, cs, vs, ps ++ [⟨o, u3, u4⟩]⟩, ⟨allK_le k1 (by omega), k2c, allK_le k3 (by omega), allK_snoc k4 (by omega) ⟨⟨ho1, ho2⟩, hw3, hw4⟩⟩, rfl⟩, _, by omega, by omega, rfl⟩, rr, trivial⟩
structure Nmd where
 ntc : List UInt8
 hire : List UInt8
 drv : List UInt8
 bby : Int
theorem hend_len (l : List Plt) (q : List UInt8) : ((hend l).out q).length ≤ l.length := by
 have key : ∀ (m : List Plt) (s : HS), ((m.foldl (fun s x => hdrop s x.plt 5761440) s).out q).length + (m.foldl (fun s x => hdrop s x.plt 5761440) s).live.length ≤ (s.out q).length + s.live.length := by
  intro m
  induction m with
  | nil => intro s; exact Nat.le_refl _
  | cons x m ih => intro s; exact Nat.le_trans (ih _) (hdrop_len s x.plt 5761440 q)
 have h1 := key l (hall l)
 have h2 := hall_len l q
 show (((l.foldl (fun s x => hdrop s x.plt 5761440) (hall l))).out q).length ≤ _
 omega
theorem hirIx_bd (l : List Hir) (v : List UInt8) (t : Int) : -1 ≤ hirIx l v t ∧ hirIx l v t < l.length := ⟨ixF_bd.1, ixF_bd.2.1⟩
theorem fltE_srt {f : Flt} (h : fltE f = 0) : srtP f.plt ∧ f.plt.length ≤ 1000 := by
 unfold fltE at h
 have h0 : firstAt (pltE1 f) f.plt.length = 0 ∧ f.plt.length ≤ 1000 := by
  split at h
  · exact absurd h (by assumption)
  · split at h
    · exact absurd h (by assumption)
    · split at h
      · cases h
      · exact ⟨h, by omega⟩
 have h1 := firstAt_all h0.1
 refine ⟨?_, h0.2⟩
 unfold srtP
 rw [List.pairwise_iff_getElem]
 intro i j hi hj hij
 have := frm_mono (f := f) (i := j) (fun k hk hk0 => pltE1_cmp (h1 k (by omega)) hk0) j i (by omega) (by omega)
 rw [List.getD_eq_getElem?_getD, List.getD_eq_getElem?_getD, List.getElem?_eq_getElem hi, List.getElem?_eq_getElem hj] at this
 exact this
theorem nmd_eq {a b : Nmd} : a = b ↔ ((a.ntc = b.ntc ∧ a.hire = b.hire) ∧ a.drv = b.drv) ∧ a.bby = b.bby := by cases a; cases b; simp [and_assoc]
instance : DecidableEq Nmd := fun _ _ => decidable_of_iff _ nmd_eq.symm
theorem take_setN {α : Type} {c : List α} {i : Nat} {x d : α} (h : i < c.length) : (c.set i x).take (i + 1) = c.take i ++ [x] := by
 rw [take_snocD (d := d) (by simpa using h)]
 congr 1
 · rw [List.take_set, List.set_eq_of_length_le (by rw [List.length_take]; omega)]
 · rw [List.getD_eq_getElem?_getD, List.getElem?_set_self h]; rfl
theorem filt_keep {l : List Plt} {q : Plt → Bool} {k : Nat} (hk : k < l.length) (h : q (l.getD k plt0) = false) : (l.take (k + 1)).filter (fun x => !q x) = (l.take k).filter (fun x => !q x) ++ [l.getD k plt0] := by
 rw [take_snocD (d := plt0) hk, List.filter_append, List.filter_cons_of_pos (by rw [h]; rfl), List.filter_nil]
theorem filt_drop {l : List Plt} {q : Plt → Bool} {k : Nat} (hk : k < l.length) (h : q (l.getD k plt0) = true) : (l.take (k + 1)).filter (fun x => !q x) = (l.take k).filter (fun x => !q x) := by
 rw [take_snocD (d := plt0) hk, List.filter_append, List.filter_cons_of_neg (by rw [h]; simp), List.filter_nil, List.append_nil]
theorem filt_all {l : List Plt} {q : Plt → Bool} {k : Nat} (hk : k ≤ l.length) (h : ∀ j, j < k → q (l.getD j plt0) = false) : (l.take k).filter (fun x => !q x) = l.take k := by
 rw [List.filter_eq_self]
 intro x hx
 obtain ⟨j, hj, rfl⟩ := mem_getD (d := plt0) hx
 rw [List.length_take] at hj
 rw [getD_take (by omega), h j (by omega)]; rfl
theorem ixF_first {p : Nat → Bool} : ∀ {n : Nat} (j : Nat), j < n → (ixF p n = -1 ∨ (j : Int) < ixF p n) → p j = false := by
 intro n
 induction n with
 | zero => intro j hj; omega
 | succ n ih =>
   intro j hj h
   rw [ixF] at h
   by_cases q : ixF p n = -1
   · rw [if_pos q] at h
     rcases Nat.lt_or_ge j n with r | r
     · exact ih j r (.inl q)
     · obtain rfl : j = n := by omega
       cases hp : p j with
       | false => rfl
       | true => rw [if_pos hp] at h; omega
   · rw [if_neg q] at h
     have hb := (ixF_bd (p := p) (n := n)).2.1
     exact ih j (by omega) (by omega)
def c245 (t : Int) (p : Plt) : Bool := decide (t < p.frm)
theorem z245 (p : Plt) (t : Int) : FSpec Tryz.prog 245 [.agg ((pltF p).map .d), .ptr 1000002 0] [(1000002, icC t)] (fun y r => y = .d (.bool (c245 t p)) ∧ r = [(1000002, icC t)]) := by
 refine spec_of hT (C := []) Tryz.func245 rfl Tryz.call245 rfl rfl rfl ?_
 conv => whnf
 refine .ret _ ?_
 conv => whnf
 exact ⟨[(1000002, icC t)], ⟨rfl, rfl⟩, rr, trivial⟩
theorem z161o (l : List Plt) (hl : l.length ≤ 2^20) (t : Int) : FSpec Tryz.prog 161 [.buf 1000001, .fn 245 [.ptr 1000002 0]] [(1000001, pltB l), (1000002, icC t)] (fun x r => x = .d (.int .i64 (ixF (fun i => c245 t (l.getD i plt0)) l.length)) ∧ r = [(1000001, pltB l), (1000002, icC t)]) := by
 refine spec_of hT (C := []) Tryz.func161 rfl Tryz.call161 rfl rfl rfl ?_
 conv => whnf
 refine LoopX.rule hT (C := []) (ι := Nat) (fun i => i ≤ l.length ∧ ∀ j, j < i → c245 t (l.getD j plt0) = false) (fun i => mkSt [(0, .buf 1000001), (1, .fn 245 [.ptr 1000002 0]), (7, .d (.int .i64 l.length)), (8, .d (.int .i64 i))] [(1000001, pltB l), (1000002, icC t)]) (fun i => l.length - i) 0 ⟨by omega, by omega⟩ (by (refine Entails.mk' [(1000001, 1000001), (1000002, 1000002)] rfl rfl ?_ ?_ <;> repeat' (first | exact True.intro | exact lr | exact rr | exact SV.le_int (by omega) | exact SV.le_any _ | refine And.intro ?_ ?_)); done) ?_
 rintro i ⟨p1, p2⟩
 have e1 : (i : Int).toNat = i := Int.toNat_natCast i
 conv => whnf
 repeat' (first | (refine CallX.of (z245 (l.getD (i : Int).toNat plt0) t) [(1000002, 1000002)] rfl ⟨lr, lr, trivial⟩ ⟨rr, trivial⟩ rfl rfl ?_; rintro x rout ⟨rfl, rfl⟩; refine ⟨rfl, ?_⟩; conv => whnf) | (refine br_intro ?_ ?_ <;> intro hb <;> (try simp only [brs] at hb) <;> conv => whnf) | omega | (refine And.intro ?_ ?_; ((try dsimp only); first | omega | (refine szA rfl ?_; omega) | (refine szB rfl ?_; omega) | (unfold inI64; omega) | exact rfl | (simp only [lns] at *; omega) | decide | (unfold inI64; decide)); conv => whnf) | decide | assumption)
 · refine .ret _ ?_
   conv => whnf
   refine ⟨[(1000001, pltB l), (1000002, icC t)], ⟨?_, rfl⟩, rr, rr, trivial⟩
   conv => lhs; whnf
   congr 2
   exact (ixF_hit (by omega) p2 (by simpa using hb)).symm
 · exact ⟨i + 1, ⟨by omega, all_step p2 (by simpa using hb)⟩, by omega, (by (refine Entails.mk' [(1000001, 1000001), (1000002, 1000002)] rfl rfl ?_ ?_ <;> repeat' (first | exact True.intro | exact lr | exact rr | exact SV.le_int (by omega) | exact SV.le_any _ | refine And.intro ?_ ?_)); done)⟩
 · refine .ret _ ?_
   conv => whnf
   refine ⟨[(1000001, pltB l), (1000002, icC t)], ⟨?_, rfl⟩, rr, rr, trivial⟩
   conv => lhs; whnf
   congr 2
   have : i = l.length := by omega
   subst this
   exact (ixF_none p2).symm
set_option maxHeartbeats 2000000 in
theorem z244a (l : List Plt) (hl : l.length ≤ 1000) (t : Int) : FSpec Tryz.prog 244 [.buf 1000001, .fn 245 [.ptr 1000002 0]] [(1000001, pltB l), (1000002, icC t)]
 (fun y r => ∃ d, (d = 1000001 ∨ d = 41) ∧ y = .buf d ∧ r = [(d, pltB (l.filter fun x => !c245 t x)), (1000002, icC t)]) := by
 have hbd := ixF_bd (p := fun i => c245 t (l.getD i plt0)) (n := l.length)
 have hfst := ixF_first (p := fun i => c245 t (l.getD i plt0)) (n := l.length)
 obtain ⟨J, hJ⟩ : ∃ J, J = ixF (fun i => c245 t (l.getD i plt0)) l.length := ⟨_, rfl⟩
 have hcI := z161o l (by omega) t
 rw [← hJ] at hbd hcI hfst
 refine spec_of hT (C := []) Tryz.func244 rfl Tryz.call244 rfl rfl rfl ?_
 conv => whnf
 refine CallX.of hcI [(1000001, 1000001), (1000002, 1000002)] rfl ⟨lr, lr, trivial⟩ ⟨rr, rr, trivial⟩ rfl rfl ?_
 rintro x rout ⟨rfl, rfl⟩
 refine ⟨rfl, ?_⟩
 conv => whnf
 repeat' (first | (refine br_intro ?_ ?_ <;> intro hb <;> (try simp only [brs] at hb) <;> conv => whnf) | omega | (refine And.intro ?_ ?_; ((try dsimp only); first | omega | (refine szA rfl ?_; omega) | (refine szB rfl ?_; omega) | (unfold inI64; omega) | exact rfl | (simp only [lns] at *; omega) | decide | (unfold inI64; decide)); conv => whnf) | decide | assumption)
 · have hno : l.filter (fun x => !c245 t x) = l := by
    have := filt_all (l := l) (q := c245 t) (k := l.length) (Nat.le_refl _) (fun j hj => hfst j (by omega) (.inl hb))
    rwa [List.take_length] at this
   refine .ret _ ?_
   conv => whnf
   exact ⟨_, ⟨1000001, .inl rfl, rfl, rfl⟩, by rw [hno]; exact rr, rr, trivial⟩
 obtain ⟨jN, rfl⟩ : ∃ jN : Nat, J = jN := ⟨J.toNat, by omega⟩
 have hj0 := hbd.2.2 (by omega)
 rw [Int.toNat_natCast] at hj0
 refine LoopX.rule hT (C := []) (ι := Nat × Nat × List Plt) (fun (i, k, c) => (i < k ∧ k ≤ l.length ∧ c.length = l.length) ∧ c.take i = (l.take k).filter (fun x => !c245 t x) ∧ ∀ s, k ≤ s → c.getD s plt0 = l.getD s plt0)
  (fun (i, k, c) => mkSt [(0, .buf 1000001), (1, .fn 245 [.ptr 1000002 0]), (5, .d (.int .i64 i)), (6, .d (.int .i64 k))] [(1000001, pltB c), (1000002, icC t)]) (fun (_, k, _) => l.length - k) (jN, jN + 1, l)
  ⟨⟨by show jN < jN + 1; omega, by show jN + 1 ≤ l.length; omega, rfl⟩, by show l.take jN = (l.take (jN + 1)).filter _; rw [filt_drop (by omega) hj0, filt_all (by omega) (fun j hj => hfst j (by omega) (.inr (by omega)))], fun s _ => rfl⟩
  (Entails.mk' [(1000001, 1000001), (1000002, 1000002)] rfl rfl ⟨lr, lr, lr, SV.le_int (by push_cast; omega), trivial⟩ ⟨rr, rr, trivial⟩) ?_
 rintro ⟨i, k, c⟩ ⟨⟨r1, r2, r3⟩, r4, r5⟩
 have r1 : i < k := r1
 have r2 : k ≤ l.length := r2
 have r3 : c.length = l.length := r3
 have r4 : c.take i = (l.take k).filter (fun x => !c245 t x) := r4
 have r5 : ∀ s, k ≤ s → c.getD s plt0 = l.getD s plt0 := r5
 have e1 : (k : Int).toNat = k := Int.toNat_natCast k
 have e2 : (i : Int).toNat = i := Int.toNat_natCast i
 have hck := r5 k (Nat.le_refl _)
 conv => whnf
 repeat' (first | (refine CallX.of (z245 (c.getD (k : Int).toNat plt0) t) [(1000002, 1000002)] rfl ⟨lr, lr, trivial⟩ ⟨rr, trivial⟩ rfl rfl ?_; rintro x rout ⟨rfl, rfl⟩; refine ⟨rfl, ?_⟩; conv => whnf) | (refine SliceX.first (lo := none) rfl ?_; conv => whnf) | (refine SliceX.look (lo := some _) rfl ?_; conv => whnf) | (refine br_intro ?_ ?_ <;> intro hb <;> (try simp only [brs] at hb) <;> conv => whnf) | omega | (refine And.intro ?_ ?_; ((try dsimp only); first | omega | (refine szA rfl ?_; omega) | (refine szB rfl ?_; omega) | (unfold inI64; omega) | exact rfl | (simp only [lns] at *; omega) | decide | (unfold inI64; decide)); conv => whnf) | decide | assumption)
 · have hb' : c245 t (l.getD k plt0) = false := by rw [← hck]; simpa using hb
   exact ⟨(i + 1, k + 1, c.set (i : Int).toNat (c.getD (k : Int).toNat plt0)), ⟨⟨by omega, by omega, by rw [List.length_set]; exact r3⟩, by rw [e1, e2, take_setN (d := plt0) (by omega), r4, filt_keep (by omega) hb', hck], fun s hs => by
    rw [List.getD_eq_getElem?_getD, List.getElem?_set_ne (by omega), ← List.getD_eq_getElem?_getD]; exact r5 s (by omega)⟩, (show l.length - (k + 1) < l.length - k by omega),
    Entails.mk' [(1000001, 1000001), (1000002, 1000002)] rfl rfl ⟨lr, lr, SV.le_int (by push_cast; omega), SV.le_int (by push_cast; omega), trivial⟩ ⟨Res.le_putF (fun _ _ => rfl), rr, trivial⟩⟩
 · have hb' : c245 t (l.getD k plt0) = true := by rw [← hck]; simpa using hb
   exact ⟨(i, k + 1, c), ⟨⟨by omega, by omega, r3⟩, by rw [filt_drop (by omega) hb']; exact r4, fun s hs => r5 s (by omega)⟩, (show l.length - (k + 1) < l.length - k by omega), Entails.mk' [(1000001, 1000001), (1000002, 1000002)] rfl rfl ⟨lr, lr, lr, SV.le_int (by push_cast; omega), trivial⟩ ⟨rr, rr, trivial⟩⟩
 · have hkl : k = l.length := by omega
   rw [hkl, List.take_length] at r4
   refine .ret _ ?_
   conv => whnf
   refine ⟨_, ⟨41, .inr rfl, rfl, rfl⟩, ?_, rr, trivial⟩
   rw [← r4]
   refine Res.le_buf (by rw [List.length_take]; omega) (fun s hs => ?_)
   have hs : s < i := by
    have : s < (i : Int).toNat := hs
    omega
   have h1 : Nat.ble (i : Int).toNat s = false := by
    rw [← Bool.not_eq_true, Nat.ble_eq]; omega
   show (bif Nat.ble (i : Int).toNat s && _ then _ else rowF pltF plt0 c s) = _
   rw [h1]
   simp only [Bool.false_and, cond_false, rowF]
   rw [getD_take hs]
def twL (p o : Plt) : Bool := decide (p.frm < o.frm) && (o.veh == p.veh || o.plt == p.plt)
theorem z247 (o p : Plt) : FSpec Tryz.prog 247 [.agg ((pltF o).map .d), .ptr 1000001 0] [(1000001, pltC p)] (fun y r => y = .d (.bool (twL p o)) ∧ r = [(1000001, pltC p)]) := by
 refine spec_of hT (C := []) Tryz.func247 rfl Tryz.call247 rfl rfl rfl ?_
 conv => whnf
 repeat' (first | (refine br_intro ?_ ?_ <;> intro hb <;> (try simp only [brs] at hb) <;> conv => whnf) | omega | (refine And.intro ?_ ?_; ((try dsimp only); first | omega | (refine szA rfl ?_; omega) | (refine szB rfl ?_; omega) | (unfold inI64; omega) | (simp only [lns] at *; omega) | decide | (unfold inI64; decide)); conv => whnf) | decide | assumption)
 all_goals
  refine .ret _ ?_
  conv => whnf
  refine ⟨[(1000001, pltC p)], ⟨?_, rfl⟩, rr, trivial⟩
  conv => lhs; whnf
  unfold twL
  congr 2
  first | grind | simp_all
theorem z161l (l : List Plt) (hl : l.length ≤ 2^40) (p : Plt) : FSpec Tryz.prog 161 [.d (plts l), .fn 247 [.ptr 1000001 0]] [(1000001, pltC p)] (fun x r => x = .d (.int .i64 (ixF (fun i => twL p (l.getD i plt0)) l.length)) ∧ r = [(1000001, pltC p)]) := by
 refine spec_of hT (C := []) Tryz.func161 rfl Tryz.call161 rfl rfl rfl ?_
 conv => whnf
 refine LoopX.rule hT (C := []) (ι := Nat) (fun i => i ≤ l.length ∧ ∀ j, j < i → twL p (l.getD j plt0) = false) (fun i => mkSt [(0, .d (plts l)), (1, .fn 247 [.ptr 1000001 0]), (7, .d (.int .i64 l.length)), (8, .d (.int .i64 i))] [(1000001, pltC p)]) (fun i => l.length - i) 0 ⟨by omega, by omega⟩ (by (refine Entails.mk' [(1000001, 1000001)] rfl rfl ?_ ?_ <;> repeat' (first | exact True.intro | exact lr | exact rr | exact SV.le_int (by omega) | exact SV.le_any _ | refine And.intro ?_ ?_)); done) ?_
 rintro i ⟨p1, p2⟩
 have e1 : (i : Int).toNat = i := Int.toNat_natCast i
 conv => whnf
 repeat' (first | (refine CallX.of (z247 (l.getD (i : Int).toNat plt0) p) [(1000001, 1000001)] rfl ⟨lr, lr, trivial⟩ ⟨rr, trivial⟩ rfl rfl ?_; rintro x rout ⟨rfl, rfl⟩; refine ⟨rfl, ?_⟩; conv => whnf) | (refine br_intro ?_ ?_ <;> intro hb <;> (try simp only [brs] at hb) <;> conv => whnf) | omega | (refine And.intro ?_ ?_; ((try dsimp only); first | omega | (refine szA rfl ?_; omega) | (refine szB rfl ?_; omega) | (unfold inI64; omega) | (simp only [lns] at *; omega) | decide | (unfold inI64; decide)); conv => whnf) | decide | assumption)
 · refine .ret _ ?_
   conv => whnf
   refine ⟨[(1000001, pltC p)], ⟨?_, rfl⟩, rr, trivial⟩
   conv => lhs; whnf
   congr 2
   exact (ixF_hit (by omega) p2 (by simpa using hb)).symm
 · exact ⟨i + 1, ⟨by omega, all_step p2 (by simpa using hb)⟩, by omega, (by (refine Entails.mk' [(1000001, 1000001)] rfl rfl ?_ ?_ <;> repeat' (first | exact True.intro | exact lr | exact rr | exact SV.le_int (by omega) | exact SV.le_any _ | refine And.intro ?_ ?_)); done)⟩
 · refine .ret _ ?_
   conv => whnf
   refine ⟨[(1000001, pltC p)], ⟨?_, rfl⟩, rr, trivial⟩
   conv => lhs; whnf
   congr 2
   have : i = l.length := by omega
   subst this
   exact (ixF_none p2).symm
theorem z87l (l : List Plt) (hl : l.length ≤ 2^40) (p : Plt) : FSpec Tryz.prog 87 [.d (plts l), .fn 247 [.ptr 1000001 0]] [(1000001, pltC p)] (fun x r => x = .d (.bool (l.any (twL p))) ∧ r = [(1000001, pltC p)]) := by
 refine spec_of hT (C := []) Tryz.func87 rfl Tryz.call87 rfl rfl rfl ?_
 conv => whnf
 repeat' (first | (refine CallX.of (z161l l hl p) [(1000001, 1000001)] rfl ⟨lr, lr, trivial⟩ ⟨rr, trivial⟩ rfl rfl ?_; rintro x rout ⟨rfl, rfl⟩; refine ⟨rfl, ?_⟩; conv => whnf) | (refine br_intro ?_ ?_ <;> intro hb <;> (try simp only [brs] at hb) <;> conv => whnf) | omega | (refine And.intro ?_ ?_; ((try dsimp only); first | omega | (refine szA rfl ?_; omega) | (refine szB rfl ?_; omega) | (unfold inI64; omega) | (simp only [lns] at *; omega) | decide | (unfold inI64; decide)); conv => whnf) | decide | assumption)
 refine .ret _ ?_
 conv => whnf
 refine ⟨[(1000001, pltC p)], ⟨?_, rfl⟩, rr, trivial⟩
 conv => lhs; whnf
 rw [← ix_any l plt0]
def c246 (E : List Plt) (p : Plt) : Bool := E.any (twL p)
def erC : Res := .cells 29 [.buf 1000003]
def erF (E : List Plt) : Res := .fro 3 E.length (rowF pltF plt0 E)
theorem z246 (p : Plt) (E : List Plt) (hE : E.length ≤ 2^40) : FSpec Tryz.prog 246 [.agg ((pltF p).map .d), .ptr 1000002 0] [(1000002, erC), (1000003, erF E)] (fun y r => y = .d (.bool (c246 E p)) ∧ r = [(1000002, erC), (1000003, erF E)]) := by
 refine spec_of hT (C := []) Tryz.func246 rfl Tryz.call246 rfl rfl rfl ?_
 conv => whnf
 repeat' (first | (refine CallX.of (z87l E hE p) [(1000001, 2)] rfl ⟨lr, lr, trivial⟩ ⟨rr, trivial⟩ rfl rfl ?_; rintro x rout ⟨rfl, rfl⟩; refine ⟨rfl, ?_⟩; conv => whnf) | (refine br_intro ?_ ?_ <;> intro hb <;> (try simp only [brs] at hb) <;> conv => whnf) | omega | (refine And.intro ?_ ?_; ((try dsimp only); first | omega | (refine szA rfl ?_; omega) | (refine szB rfl ?_; omega) | (unfold inI64; omega) | (simp only [lns] at *; omega) | decide | (unfold inI64; decide)); conv => whnf) | decide | assumption)
 refine .ret _ ?_
 conv => whnf
 exact ⟨[(1000002, erC), (1000003, erF E)], ⟨rfl, rfl⟩, rr, rr, trivial⟩
theorem z161e (l : List Plt) (hl : l.length ≤ 2^20) (E : List Plt) (hE : E.length ≤ 2^20) : FSpec Tryz.prog 161 [.buf 1000001, .fn 246 [.ptr 1000002 0]] [(1000001, pltB l), (1000002, erC), (1000003, erF E)] (fun x r => x = .d (.int .i64 (ixF (fun i => c246 E (l.getD i plt0)) l.length)) ∧ r = [(1000001, pltB l), (1000002, erC), (1000003, erF E)]) := by
 refine spec_of hT (C := []) Tryz.func161 rfl Tryz.call161 rfl rfl rfl ?_
 conv => whnf
 refine LoopX.rule hT (C := []) (ι := Nat) (fun i => i ≤ l.length ∧ ∀ j, j < i → c246 E (l.getD j plt0) = false) (fun i => mkSt [(0, .buf 1000001), (1, .fn 246 [.ptr 1000002 0]), (7, .d (.int .i64 l.length)), (8, .d (.int .i64 i))] [(1000001, pltB l), (1000002, erC), (1000003, erF E)]) (fun i => l.length - i) 0 ⟨by omega, by omega⟩ (by (refine Entails.mk' [(1000001, 1000001), (1000002, 1000002), (1000003, 1000003)] rfl rfl ?_ ?_ <;> repeat' (first | exact True.intro | exact lr | exact rr | exact SV.le_int (by omega) | exact SV.le_any _ | refine And.intro ?_ ?_)); done) ?_
 rintro i ⟨p1, p2⟩
 have e1 : (i : Int).toNat = i := Int.toNat_natCast i
 conv => whnf
 repeat' (first | (refine CallX.of (z246 (l.getD (i : Int).toNat plt0) E (by omega)) [(1000002, 1000002), (1000003, 1000003)] rfl ⟨lr, lr, trivial⟩ ⟨rr, rr, trivial⟩ rfl rfl ?_; rintro x rout ⟨rfl, rfl⟩; refine ⟨rfl, ?_⟩; conv => whnf) | (refine br_intro ?_ ?_ <;> intro hb <;> (try simp only [brs] at hb) <;> conv => whnf) | omega | (refine And.intro ?_ ?_; ((try dsimp only); first | omega | (refine szA rfl ?_; omega) | (refine szB rfl ?_; omega) | (unfold inI64; omega) | exact rfl | (simp only [lns] at *; omega) | decide | (unfold inI64; decide)); conv => whnf) | decide | assumption)
 · refine .ret _ ?_
   conv => whnf
   refine ⟨[(1000001, pltB l), (1000002, erC), (1000003, erF E)], ⟨?_, rfl⟩, rr, rr, rr, trivial⟩
   conv => lhs; whnf
   congr 2
   exact (ixF_hit (by omega) p2 (by simpa using hb)).symm
 · exact ⟨i + 1, ⟨by omega, all_step p2 (by simpa using hb)⟩, by omega, (by (refine Entails.mk' [(1000001, 1000001), (1000002, 1000002), (1000003, 1000003)] rfl rfl ?_ ?_ <;> repeat' (first | exact True.intro | exact lr | exact rr | exact SV.le_int (by omega) | exact SV.le_any _ | refine And.intro ?_ ?_)); done)⟩
 · refine .ret _ ?_
   conv => whnf
   refine ⟨[(1000001, pltB l), (1000002, erC), (1000003, erF E)], ⟨?_, rfl⟩, rr, rr, rr, trivial⟩
   conv => lhs; whnf
   congr 2
   have : i = l.length := by omega
   subst this
   exact (ixF_none p2).symm
set_option maxHeartbeats 2000000 in
theorem z244b (l : List Plt) (hl : l.length ≤ 1000) (E : List Plt) (hE : E.length ≤ 2^20) : FSpec Tryz.prog 244 [.buf 1000001, .fn 246 [.ptr 1000002 0]] [(1000001, pltB l), (1000002, erC), (1000003, erF E)]
 (fun y r => ∃ d, (d = 1000001 ∨ d = 41) ∧ y = .buf d ∧ r = [(d, pltB (l.filter fun x => !c246 E x)), (1000002, erC), (1000003, erF E)]) := by
 have hbd := ixF_bd (p := fun i => c246 E (l.getD i plt0)) (n := l.length)
 have hfst := ixF_first (p := fun i => c246 E (l.getD i plt0)) (n := l.length)
 obtain ⟨J, hJ⟩ : ∃ J, J = ixF (fun i => c246 E (l.getD i plt0)) l.length := ⟨_, rfl⟩
 have hcI := z161e l (by omega) E hE
 rw [← hJ] at hbd hcI hfst
 refine spec_of hT (C := []) Tryz.func244 rfl Tryz.call244 rfl rfl rfl ?_
 conv => whnf
 refine CallX.of hcI [(1000001, 1000001), (1000002, 1000002), (1000003, 1000003)] rfl ⟨lr, lr, trivial⟩ ⟨rr, rr, rr, trivial⟩ rfl rfl ?_
 rintro x rout ⟨rfl, rfl⟩
 refine ⟨rfl, ?_⟩
 conv => whnf
 repeat' (first | (refine br_intro ?_ ?_ <;> intro hb <;> (try simp only [brs] at hb) <;> conv => whnf) | omega | (refine And.intro ?_ ?_; ((try dsimp only); first | omega | (refine szA rfl ?_; omega) | (refine szB rfl ?_; omega) | (unfold inI64; omega) | exact rfl | (simp only [lns] at *; omega) | decide | (unfold inI64; decide)); conv => whnf) | decide | assumption)
 · have hno : l.filter (fun x => !c246 E x) = l := by
    have := filt_all (l := l) (q := c246 E) (k := l.length) (Nat.le_refl _) (fun j hj => hfst j (by omega) (.inl hb))
    rwa [List.take_length] at this
   refine .ret _ ?_
   conv => whnf
   exact ⟨_, ⟨1000001, .inl rfl, rfl, rfl⟩, by rw [hno]; exact rr, rr, rr, trivial⟩
 obtain ⟨jN, rfl⟩ : ∃ jN : Nat, J = jN := ⟨J.toNat, by omega⟩
 have hj0 := hbd.2.2 (by omega)
 rw [Int.toNat_natCast] at hj0
 refine LoopX.rule hT (C := []) (ι := Nat × Nat × List Plt) (fun (i, k, c) => (i < k ∧ k ≤ l.length ∧ c.length = l.length) ∧ c.take i = (l.take k).filter (fun x => !c246 E x) ∧ ∀ s, k ≤ s → c.getD s plt0 = l.getD s plt0)
  (fun (i, k, c) => mkSt [(0, .buf 1000001), (1, .fn 246 [.ptr 1000002 0]), (5, .d (.int .i64 i)), (6, .d (.int .i64 k))] [(1000001, pltB c), (1000002, erC), (1000003, erF E)]) (fun (_, k, _) => l.length - k) (jN, jN + 1, l)
  ⟨⟨by show jN < jN + 1; omega, by show jN + 1 ≤ l.length; omega, rfl⟩, by show l.take jN = (l.take (jN + 1)).filter _; rw [filt_drop (by omega) hj0, filt_all (by omega) (fun j hj => hfst j (by omega) (.inr (by omega)))], fun s _ => rfl⟩
  (Entails.mk' [(1000001, 1000001), (1000002, 1000002), (1000003, 1000003)] rfl rfl ⟨lr, lr, lr, SV.le_int (by push_cast; omega), trivial⟩ ⟨rr, rr, rr, trivial⟩) ?_
 rintro ⟨i, k, c⟩ ⟨⟨r1, r2, r3⟩, r4, r5⟩
 have r1 : i < k := r1
 have r2 : k ≤ l.length := r2
 have r3 : c.length = l.length := r3
 have r4 : c.take i = (l.take k).filter (fun x => !c246 E x) := r4
 have r5 : ∀ s, k ≤ s → c.getD s plt0 = l.getD s plt0 := r5
 have e1 : (k : Int).toNat = k := Int.toNat_natCast k
 have e2 : (i : Int).toNat = i := Int.toNat_natCast i
 have hck := r5 k (Nat.le_refl _)
 conv => whnf
 repeat' (first | (refine CallX.of (z246 (c.getD (k : Int).toNat plt0) E (by omega)) [(1000002, 1000002), (1000003, 1000003)] rfl ⟨lr, lr, trivial⟩ ⟨rr, rr, trivial⟩ rfl rfl ?_; rintro x rout ⟨rfl, rfl⟩; refine ⟨rfl, ?_⟩; conv => whnf) | (refine SliceX.first (lo := none) rfl ?_; conv => whnf) | (refine SliceX.look (lo := some _) rfl ?_; conv => whnf) | (refine br_intro ?_ ?_ <;> intro hb <;> (try simp only [brs] at hb) <;> conv => whnf) | omega | (refine And.intro ?_ ?_; ((try dsimp only); first | omega | (refine szA rfl ?_; omega) | (refine szB rfl ?_; omega) | (unfold inI64; omega) | exact rfl | (simp only [lns] at *; omega) | decide | (unfold inI64; decide)); conv => whnf) | decide | assumption)
 · have hb' : c246 E (l.getD k plt0) = false := by rw [← hck]; simpa using hb
   exact ⟨(i + 1, k + 1, c.set (i : Int).toNat (c.getD (k : Int).toNat plt0)), ⟨⟨by omega, by omega, by rw [List.length_set]; exact r3⟩, by rw [e1, e2, take_setN (d := plt0) (by omega), r4, filt_keep (by omega) hb', hck], fun s hs => by
    rw [List.getD_eq_getElem?_getD, List.getElem?_set_ne (by omega), ← List.getD_eq_getElem?_getD]; exact r5 s (by omega)⟩, (show l.length - (k + 1) < l.length - k by omega),
    Entails.mk' [(1000001, 1000001), (1000002, 1000002), (1000003, 1000003)] rfl rfl ⟨lr, lr, SV.le_int (by push_cast; omega), SV.le_int (by push_cast; omega), trivial⟩ ⟨Res.le_putF (fun _ _ => rfl), rr, rr, trivial⟩⟩
 · have hb' : c246 E (l.getD k plt0) = true := by rw [← hck]; simpa using hb
   exact ⟨(i, k + 1, c), ⟨⟨by omega, by omega, r3⟩, by rw [filt_drop (by omega) hb']; exact r4, fun s hs => r5 s (by omega)⟩, (show l.length - (k + 1) < l.length - k by omega), Entails.mk' [(1000001, 1000001), (1000002, 1000002), (1000003, 1000003)] rfl rfl ⟨lr, lr, lr, SV.le_int (by push_cast; omega), trivial⟩ ⟨rr, rr, rr, trivial⟩⟩
 · have hkl : k = l.length := by omega
   rw [hkl, List.take_length] at r4
   refine .ret _ ?_
   conv => whnf
   refine ⟨_, ⟨41, .inr rfl, rfl, rfl⟩, ?_, rr, rr, trivial⟩
   rw [← r4]
   refine Res.le_buf (by rw [List.length_take]; omega) (fun s hs => ?_)
   have hs : s < i := by
    have : s < (i : Int).toNat := hs
    omega
   have h1 : Nat.ble (i : Int).toNat s = false := by
    rw [← Bool.not_eq_true, Nat.ble_eq]; omega
   show (bif Nat.ble (i : Int).toNat s && _ then _ else rowF pltF plt0 c s) = _
   rw [h1]
   simp only [Bool.false_and, cond_false, rowF]
   rw [getD_take hs]
theorem z137r (l : List Plt) (hl : l.length ≤ 2^20) : FSpec Tryz.prog 137 [.d (plts l)] [] (fun y r => (y = .d .nilsl ∧ l = [] ∧ r = []) ∨ (y = .buf 7 ∧ r = [(7, pltB l)])) := by
 refine spec_of hT (C := [5]) Tryz.func137 rfl Tryz.call137 rfl rfl rfl ?_
 conv => whnf
 rintro b hbn
 conv => whnf
 repeat' (first | (refine br_intro ?_ ?_ <;> intro hb <;> (try simp only [brs] at hb) <;> conv => whnf) | omega | (refine And.intro ?_ ?_; ((try dsimp only); first | omega | (refine szA rfl ?_; omega) | (refine szB rfl ?_; omega) | (unfold inI64; omega) | exact rfl | (simp only [lns] at *; omega) | decide | (unfold inI64; decide)); conv => whnf) | decide | assumption)
 · have : l = [] := List.eq_nil_of_length_eq_zero (hbn (by assumption))
   refine .ret _ ?_
   conv => whnf
   exact ⟨_, .inl ⟨rfl, this, rfl⟩, trivial⟩
 · refine .ret _ ?_
   conv => whnf
   refine ⟨_, .inr ⟨rfl, rfl⟩, Res.le_buf (by simp) (fun i hi => ?_), trivial⟩
   rw [appGet_ge (by omega)]; rfl
end Go.Proofs.YtcjfniddeibbhaaGreatDoor
namespace Go.Eng
open Go Go.Proofs Go.Sort Go.RowKit
end Go.Eng
namespace Go.Proofs
open Go.Shelf
end Go.Proofs
set_option maxRecDepth 20000
namespace Go.Proofs.YtcjfniddeibbhaaGreatDoor
open Go Go.Eng
theorem less_tot : ∀ {a b : List UInt8}, Op.bytesLess a b = false → a ≠ b → Op.bytesLess b a = true := by
 intro a
 induction a with
 | nil => intro b h hn; cases b with
   | nil => exact absurd rfl hn
   | cons y b => simp [Op.bytesLess] at h
 | cons x a ih =>
   intro b h hn
   cases b with
   | nil => rfl
   | cons y b =>
     simp only [Op.bytesLess] at h ⊢
     by_cases hxy : x = y
     · subst hxy
       simp at h ⊢
       exact ih h (fun q => hn (by rw [q]))
     · rcases Nat.lt_or_gt_of_ne (fun q => hxy (UInt8.toNat_inj.1 q)) with q | q
       · have : x < y := UInt8.lt_iff_toNat_lt.2 q
         simp [this] at h
       · have : y < x := UInt8.lt_iff_toNat_lt.2 q
         simp [this]
section
variable {v : List UInt8} {a b : Int} {l : List Hir}
end
theorem key_sorted {l : List Hir} (h : hirsE l = 0) : (∀ g ∈ l, g.key ≠ []) ∧ l.Pairwise fun g h => Op.bytesLess g.key h.key = true := by
 have hq := hirs_seq h
 refine ⟨fun g hg e => ?_, ?_⟩
 · have := hq.1 g hg
   unfold hirE at this
   rw [if_pos (.inl (by rw [e]; decide))] at this
   cases this
 · have next : ∀ i, i + 1 < l.length → Op.bytesLess (l.getD i hi0).key (l.getD (i + 1) hi0).key = true := fun i hi => by
    have := hq.2 (i + 1) (by omega) hi
    rw [Nat.add_sub_cancel] at this
    unfold strLe at this
    rw [Bool.or_eq_false_iff] at this
    exact less_tot this.1 (by simpa using this.2)
   have all : ∀ d i, i + d + 1 < l.length → Op.bytesLess (l.getD i hi0).key (l.getD (i + d + 1) hi0).key = true := by
    intro d
    induction d with
    | zero => intro i hi; exact next i hi
    | succ d ih => intro i hi; exact less_trans (ih i (by omega)) (next (i + d + 1) hi)
   rw [List.pairwise_iff_getElem]
   intro i j hi hj hij
   have := all (j - i - 1) i (by omega)
   rw [show i + (j - i - 1) + 1 = j by omega, List.getD_eq_getElem?_getD, List.getD_eq_getElem?_getD, List.getElem?_eq_getElem hi, List.getElem?_eq_getElem hj] at this
   exact this
section
variable {v : List UInt8} {a b : Int} {l : List Hir}
end
def wearV (l : List Plt) (p : List UInt8) (t : Int) : List UInt8 := ((findP (worn l t) p).map (·.veh)).getD []
def ownR (l : List Plt) (h : List Hir) (p : List UInt8) (t : Int) : List UInt8 := if wearV l p t = [] then [] else (withK (wearV l p t) h t).1
def keyIx (h : List Hir) (k : List UInt8) : Int := ixF (fun i => (h.getD i hi0).key == k) h.length
theorem fltE_plt {f : Flt} (h : fltE f = 0) : ∀ j, j < f.plt.length → pltE1 f j = 0 := by
 unfold fltE at h
 have h0 : firstAt (pltE1 f) f.plt.length = 0 := by
  split at h
  · exact absurd h (by assumption)
  · split at h
    · exact absurd h (by assumption)
    · split at h
      · cases h
      · exact h
 exact firstAt_all h0
theorem fltE_mom {f : Flt} (h : fltE f = 0) : ∀ e ∈ f.plt, e.frm < 5761440 := by
 intro e he
 obtain ⟨j, hj, rfl⟩ := mem_getD (d := plt0) he
 have := fltE_plt h j hj
 unfold pltE1 at this
 grind
theorem fltE_apr {f : Flt} (h : fltE f = 0) : aprP f.plt := by
 have h1 := fltE_plt h
 unfold aprP
 rw [List.pairwise_iff_getElem]
 intro i j hi hj hij he
 have h2 := h1 j hj
 unfold pltE1 at h2
 have h3 : ((f.plt.take j).any (twP (f.plt.getD j plt0))) = false := by
  cases hq : ((f.plt.take j).any (twP (f.plt.getD j plt0))) with
  | false => rfl
  | true => rw [hq] at h2; grind
 rw [List.any_eq_false] at h3
 have h4 := h3 f.plt[i] (by rw [List.mem_take_iff_getElem]; exact ⟨i, by omega, rfl⟩)
 have e1 : f.plt.getD j plt0 = f.plt[j] := by rw [List.getD_eq_getElem?_getD, List.getElem?_eq_getElem hj]; rfl
 rw [e1] at h4
 unfold twP at h4
 unfold clashP
 grind
theorem look_wear {f : Flt} (h : fltE f = 0) {t : Int} (ht : t < 5761440) (p : List UInt8) : lookV ((hend f.plt).out p) t = wearV f.plt p t := by
 unfold lookV wearV
 rw [hend_eq (fltE_srt h).1 (fltE_mom h) ht p, worn_liv (fltE_srt h).1 (fltE_apr h) t]
theorem hir_with (h : List Hir) (v : List UInt8) (t : Int) : (withK v h t).1 = if hirIx h v t < 0 then [] else (h.getD (hirIx h v t).toNat hi0).key := by
 have hb := ixF_bd (p := fun i => occ v (h.getD i hi0) t) (n := h.length)
 have hf := ixF_first (p := fun i => occ v (h.getD i hi0) t) (n := h.length)
 unfold hirIx
 split
 · rw [withK_no (fun j hj => hf j hj (.inl (by omega)))]
 · rw [withK_yes (i := (ixF (fun i => occ v (h.getD i hi0) t) h.length).toNat) (by omega) (fun j hj => hf j (by omega) (.inr (by omega))) (hb.2.2 (by omega))]
theorem key_ix {h : List Hir} (hh : hirsE h = 0) {i : Nat} (hi : i < h.length) : keyIx h (h.getD i hi0).key = i := by
 refine ixF_hit hi (fun j hj => ?_) (by simp)
 have hp := (key_sorted hh).2
 rw [List.pairwise_iff_getElem] at hp
 have := hp j i (by omega) hi hj
 rw [List.getD_eq_getElem?_getD, List.getD_eq_getElem?_getD, List.getElem?_eq_getElem hi, List.getElem?_eq_getElem (by omega : j < h.length)]
 simp only [Option.getD_some]
 rw [beq_eq_false_iff_ne]
 intro e
 rw [e, less_irr] at this
 cases this
theorem own_key {f : Flt} {h : List Hir} (E1 : fltE f = 0) (E2 : hirsE h = 0) {t : Int} (ht : t < 5761440) (p : List UInt8) :
 (ownK ((hend f.plt).out p) h t < 0 ∧ ownR f.plt h p t = []) ∨ (0 ≤ ownK ((hend f.plt).out p) h t ∧ ownR f.plt h p t = (h.getD (ownK ((hend f.plt).out p) h t).toNat hi0).key ∧ ownR f.plt h p t ≠ [] ∧ keyIx h (ownR f.plt h p t) = ownK ((hend f.plt).out p) h t) := by
 unfold ownK ownR
 rw [look_wear E1 ht p, hir_with]
 have hb := hirIx_bd h (wearV f.plt p t) t
 by_cases q : wearV f.plt p t = []
 · rw [if_pos q, if_pos q]; exact .inl ⟨by decide, rfl⟩
 · rw [if_neg q, if_neg q]
   by_cases q2 : hirIx h (wearV f.plt p t) t < 0
   · rw [if_pos q2]; exact .inl ⟨q2, rfl⟩
   · rw [if_neg q2]
     have hi : (hirIx h (wearV f.plt p t) t).toNat < h.length := by omega
     refine .inr ⟨by omega, rfl, (key_sorted E2).1 _ (getD_mem hi), ?_⟩
     rw [key_ix E2 hi]; omega
theorem z137n : FSpec Tryz.prog 137 [.d .nilsl] [] (fun y r => y = .d .nilsl ∧ r = []) := by
 refine spec_of hT (C := []) Tryz.func137 rfl Tryz.call137 rfl rfl rfl ?_
 conv => whnf
 repeat' (first | (refine br_intro ?_ ?_ <;> intro hb <;> (try simp only [brs] at hb) <;> conv => whnf) | omega | (refine And.intro ?_ ?_; ((try dsimp only); first | omega | (refine szA rfl ?_; omega) | (refine szB rfl ?_; omega) | (unfold inI64; omega) | exact rfl | (simp only [lns] at *; omega) | decide | (unfold inI64; decide)); conv => whnf) | decide | assumption)
 refine .ret _ ?_
 conv => whnf
 refine ⟨[], ⟨?_, rfl⟩, trivial⟩
 conv => lhs; whnf
def earN : Res := .cells 29 [.d .nilsl]
theorem z161n (t : Int) : FSpec Tryz.prog 161 [.d .nilsl, .fn 245 [.ptr 1000002 0]] [(1000002, icC t)] (fun x r => x = .d (.int .i64 (-1)) ∧ r = [(1000002, icC t)]) := by
 refine spec_of hT (C := []) Tryz.func161 rfl Tryz.call161 rfl rfl rfl ?_
 conv => whnf
 refine LoopX.rule hT (C := []) (ι := Nat) (fun i => i = 0) (fun _ => mkSt [(0, .d .nilsl), (1, .fn 245 [.ptr 1000002 0]), (7, .d (.int .i64 0)), (8, .d (.int .i64 0))] [(1000002, icC t)]) (fun _ => 0) 0 rfl (by (refine Entails.mk' [(1000002, 1000002)] rfl rfl ?_ ?_ <;> repeat' (first | exact True.intro | exact lr | exact rr | exact SV.le_int (by omega) | exact SV.le_any _ | refine And.intro ?_ ?_)); done) ?_
 rintro i p1
 conv => whnf
 repeat' (first | (refine br_intro ?_ ?_ <;> intro hb <;> (try simp only [brs] at hb) <;> conv => whnf) | omega | (refine And.intro ?_ ?_; ((try dsimp only); first | omega | (refine szA rfl ?_; omega) | (refine szB rfl ?_; omega) | (unfold inI64; omega) | exact rfl | (simp only [lns] at *; omega) | decide | (unfold inI64; decide)); conv => whnf) | decide | assumption)
 refine .ret _ ?_
 conv => whnf
 exact ⟨[(1000002, icC t)], ⟨rfl, rfl⟩, rr, trivial⟩
theorem z161m : FSpec Tryz.prog 161 [.d .nilsl, .fn 246 [.ptr 1000002 0]] [(1000002, earN)] (fun x r => x = .d (.int .i64 (-1)) ∧ r = [(1000002, earN)]) := by
 refine spec_of hT (C := []) Tryz.func161 rfl Tryz.call161 rfl rfl rfl ?_
 conv => whnf
 refine LoopX.rule hT (C := []) (ι := Nat) (fun i => i = 0) (fun _ => mkSt [(0, .d .nilsl), (1, .fn 246 [.ptr 1000002 0]), (7, .d (.int .i64 0)), (8, .d (.int .i64 0))] [(1000002, earN)]) (fun _ => 0) 0 rfl (by (refine Entails.mk' [(1000002, 1000002)] rfl rfl ?_ ?_ <;> repeat' (first | exact True.intro | exact lr | exact rr | exact SV.le_int (by omega) | exact SV.le_any _ | refine And.intro ?_ ?_)); done) ?_
 rintro i p1
 conv => whnf
 repeat' (first | (refine br_intro ?_ ?_ <;> intro hb <;> (try simp only [brs] at hb) <;> conv => whnf) | omega | (refine And.intro ?_ ?_; ((try dsimp only); first | omega | (refine szA rfl ?_; omega) | (refine szB rfl ?_; omega) | (unfold inI64; omega) | exact rfl | (simp only [lns] at *; omega) | decide | (unfold inI64; decide)); conv => whnf) | decide | assumption)
 refine .ret _ ?_
 conv => whnf
 exact ⟨[(1000002, earN)], ⟨rfl, rfl⟩, rr, trivial⟩
theorem z161w (E : List Plt) : FSpec Tryz.prog 161 [.d .nilsl, .fn 246 [.ptr 1000002 0]] [(1000002, erC), (1000003, erF E)] (fun x r => x = .d (.int .i64 (-1)) ∧ r = [(1000002, erC), (1000003, erF E)]) := by
 refine spec_of hT (C := []) Tryz.func161 rfl Tryz.call161 rfl rfl rfl ?_
 conv => whnf
 refine LoopX.rule hT (C := []) (ι := Nat) (fun i => i = 0) (fun _ => mkSt [(0, .d .nilsl), (1, .fn 246 [.ptr 1000002 0]), (7, .d (.int .i64 0)), (8, .d (.int .i64 0))] [(1000002, erC), (1000003, erF E)]) (fun _ => 0) 0 rfl (by (refine Entails.mk' [(1000002, 1000002), (1000003, 1000003)] rfl rfl ?_ ?_ <;> repeat' (first | exact True.intro | exact lr | exact rr | exact SV.le_int (by omega) | exact SV.le_any _ | refine And.intro ?_ ?_)); done) ?_
 rintro i p1
 conv => whnf
 repeat' (first | (refine br_intro ?_ ?_ <;> intro hb <;> (try simp only [brs] at hb) <;> conv => whnf) | omega | (refine And.intro ?_ ?_; ((try dsimp only); first | omega | (refine szA rfl ?_; omega) | (refine szB rfl ?_; omega) | (unfold inI64; omega) | exact rfl | (simp only [lns] at *; omega) | decide | (unfold inI64; decide)); conv => whnf) | decide | assumption)
 refine .ret _ ?_
 conv => whnf
 exact ⟨[(1000002, erC), (1000003, erF E)], ⟨rfl, rfl⟩, rr, rr, trivial⟩
theorem z244n (t : Int) : FSpec Tryz.prog 244 [.d .nilsl, .fn 245 [.ptr 1000002 0]] [(1000002, icC t)] (fun x r => x = .d .nilsl ∧ r = [(1000002, icC t)]) := by
 refine spec_of hT (C := []) Tryz.func244 rfl Tryz.call244 rfl rfl rfl ?_
 conv => whnf
 refine CallX.of (z161n t) [(1000002, 1000002)] rfl ⟨lr, lr, trivial⟩ ⟨rr, trivial⟩ rfl rfl ?_
 rintro x rout ⟨rfl, rfl⟩
 refine ⟨rfl, ?_⟩
 conv => whnf
 repeat' (first | (refine br_intro ?_ ?_ <;> intro hb <;> (try simp only [brs] at hb) <;> conv => whnf) | omega | (refine And.intro ?_ ?_; ((try dsimp only); first | omega | (refine szA rfl ?_; omega) | (refine szB rfl ?_; omega) | (unfold inI64; omega) | exact rfl | (simp only [lns] at *; omega) | decide | (unfold inI64; decide)); conv => whnf) | decide | assumption)
 refine .ret _ ?_
 conv => whnf
 exact ⟨[(1000002, icC t)], ⟨rfl, rfl⟩, rr, trivial⟩
theorem z244m : FSpec Tryz.prog 244 [.d .nilsl, .fn 246 [.ptr 1000002 0]] [(1000002, earN)] (fun x r => x = .d .nilsl ∧ r = [(1000002, earN)]) := by
 refine spec_of hT (C := []) Tryz.func244 rfl Tryz.call244 rfl rfl rfl ?_
 conv => whnf
 refine CallX.of z161m [(1000002, 1000002)] rfl ⟨lr, lr, trivial⟩ ⟨rr, trivial⟩ rfl rfl ?_
 rintro x rout ⟨rfl, rfl⟩
 refine ⟨rfl, ?_⟩
 conv => whnf
 repeat' (first | (refine br_intro ?_ ?_ <;> intro hb <;> (try simp only [brs] at hb) <;> conv => whnf) | omega | (refine And.intro ?_ ?_; ((try dsimp only); first | omega | (refine szA rfl ?_; omega) | (refine szB rfl ?_; omega) | (unfold inI64; omega) | exact rfl | (simp only [lns] at *; omega) | decide | (unfold inI64; decide)); conv => whnf) | decide | assumption)
 refine .ret _ ?_
 conv => whnf
 exact ⟨[(1000002, earN)], ⟨rfl, rfl⟩, rr, trivial⟩
theorem z244w (E : List Plt) : FSpec Tryz.prog 244 [.d .nilsl, .fn 246 [.ptr 1000002 0]] [(1000002, erC), (1000003, erF E)] (fun x r => x = .d .nilsl ∧ r = [(1000002, erC), (1000003, erF E)]) := by
 refine spec_of hT (C := []) Tryz.func244 rfl Tryz.call244 rfl rfl rfl ?_
 conv => whnf
 refine CallX.of (z161w E) [(1000002, 1000002), (1000003, 1000003)] rfl ⟨lr, lr, trivial⟩ ⟨rr, rr, trivial⟩ rfl rfl ?_
 rintro x rout ⟨rfl, rfl⟩
 refine ⟨rfl, ?_⟩
 conv => whnf
 repeat' (first | (refine br_intro ?_ ?_ <;> intro hb <;> (try simp only [brs] at hb) <;> conv => whnf) | omega | (refine And.intro ?_ ?_; ((try dsimp only); first | omega | (refine szA rfl ?_; omega) | (refine szB rfl ?_; omega) | (unfold inI64; omega) | exact rfl | (simp only [lns] at *; omega) | decide | (unfold inI64; decide)); conv => whnf) | decide | assumption)
 refine .ret _ ?_
 conv => whnf
 exact ⟨[(1000002, erC), (1000003, erF E)], ⟨rfl, rfl⟩, rr, rr, trivial⟩
theorem early_245 (l : List Plt) (t : Int) : (l.filter fun x => !c245 t x) = early l t := by
 unfold early c245
 congr 1
 funext p
 by_cases h : p.frm ≤ t
 · rw [decide_eq_true h, decide_eq_false (by omega)]; rfl
 · rw [decide_eq_false h, decide_eq_true (by omega)]; rfl
theorem worn_246 (l : List Plt) (t : Int) : ((early l t).filter fun x => !c246 (early l t) x) = worn l t := by
 unfold worn c246
 congr 1
 funext p
 congr 1
 congr 1
 funext o
 unfold twL clashP
 grind
theorem worn_len (l : List Plt) (t : Int) : (worn l t).length ≤ l.length := by
 unfold worn early
 exact Nat.le_trans (List.length_filter_le _ _) (List.length_filter_le _ _)
set_option maxHeartbeats 2000000 in
theorem z179 (f : Flt) (hl : f.plt.length ≤ 1000) (t : Int) : FSpec Tryz.prog 179 [flt f, .d (.int .i64 t)] [] (fun y r => y = .d (plts (worn f.plt t)) ∧ r = []) := by
 have hE : (early f.plt t).length ≤ 1000 := by unfold early; exact Nat.le_trans (List.length_filter_le _ _) hl
 refine spec_of hT (C := []) Tryz.func179 rfl Tryz.call179 rfl rfl rfl ?_
 conv => whnf
 repeat' (first | (refine br_intro ?_ ?_ <;> intro hb <;> (try simp only [brs] at hb) <;> conv => whnf) | omega | (refine And.intro ?_ ?_; ((try dsimp only); first | omega | (refine szA rfl ?_; omega) | (refine szB rfl ?_; omega) | (unfold inI64; omega) | exact rfl | (simp only [lns] at *; omega) | decide | (unfold inI64; decide)); conv => whnf) | decide | assumption)
 refine CallX.of (z137r f.plt (by omega)) [(7, 43)] rfl ⟨lr, trivial⟩ trivial rfl rfl ?_
 rintro x rout (⟨rfl, h0, rfl⟩ | ⟨rfl, rfl⟩)
 · refine ⟨rfl, ?_⟩
   conv => whnf
   repeat' (first | (refine CallX.of (z244n t) [(1000002, 3)] rfl ⟨lr, lr, trivial⟩ ⟨rr, trivial⟩ rfl rfl ?_; rintro x rout ⟨rfl, rfl⟩; refine ⟨rfl, ?_⟩; conv => whnf) | (refine CallX.exact (z137n) rfl rfl ?_; rotate_right; conv => whnf) | (refine CallX.of z244m [(1000002, 5)] rfl ⟨lr, lr, trivial⟩ ⟨rr, trivial⟩ rfl rfl ?_; rintro x rout ⟨rfl, rfl⟩; refine ⟨rfl, ?_⟩; conv => whnf) | (refine br_intro ?_ ?_ <;> intro hb <;> (try simp only [brs] at hb) <;> conv => whnf) | omega | (refine And.intro ?_ ?_; ((try dsimp only); first | omega | (refine szA rfl ?_; omega) | (refine szB rfl ?_; omega) | (unfold inI64; omega) | exact rfl | (simp only [lns] at *; omega) | decide | (unfold inI64; decide)); conv => whnf) | decide | assumption)
   refine .weak _ ?_
   conv => whnf
   refine ⟨.d (plts (worn f.plt t)), [], ?_, ⟨rfl, rfl⟩, trivial⟩
   have : worn f.plt t = [] := by unfold worn early; rw [h0]; rfl
   rw [this]
   exact SV.le_nilS
 · refine ⟨rfl, ?_⟩
   conv => whnf
   repeat' (first | (refine br_intro ?_ ?_ <;> intro hb <;> (try simp only [brs] at hb) <;> conv => whnf) | omega | (refine And.intro ?_ ?_; ((try dsimp only); first | omega | (refine szA rfl ?_; omega) | (refine szB rfl ?_; omega) | (unfold inI64; omega) | exact rfl | (simp only [lns] at *; omega) | decide | (unfold inI64; decide)); conv => whnf) | decide | assumption)
   have hA := z244a f.plt hl t
   rw [early_245] at hA
   refine CallX.of hA [(1000001, 43), (41, 51), (1000002, 3)] rfl ⟨lr, lr, trivial⟩ ⟨rr, rr, trivial⟩ rfl rfl ?_
   rintro x rout ⟨d, rfl | rfl, rfl, rfl⟩
   · refine ⟨rfl, ?_⟩
     conv => whnf
     repeat' (first | (refine br_intro ?_ ?_ <;> intro hb <;> (try simp only [brs] at hb) <;> conv => whnf) | omega | (refine And.intro ?_ ?_; ((try dsimp only); first | omega | (refine szA rfl ?_; omega) | (refine szB rfl ?_; omega) | (unfold inI64; omega) | exact rfl | (simp only [lns] at *; omega) | decide | (unfold inI64; decide)); conv => whnf) | decide | assumption)
     refine CallX.of (z137 (early f.plt t) (by omega)) [(1000001, 43), (7, 47)] rfl ⟨lr, trivial⟩ ⟨rr, trivial⟩ rfl rfl ?_
     rintro x rout (⟨rfl, h0, rfl⟩ | ⟨rfl, rfl⟩)
     · refine ⟨rfl, ?_⟩
       conv => whnf
       repeat' (first | (refine br_intro ?_ ?_ <;> intro hb <;> (try simp only [brs] at hb) <;> conv => whnf) | omega | (refine And.intro ?_ ?_; ((try dsimp only); first | omega | (refine szA rfl ?_; omega) | (refine szB rfl ?_; omega) | (unfold inI64; omega) | exact rfl | (simp only [lns] at *; omega) | decide | (unfold inI64; decide)); conv => whnf) | decide | assumption)
       refine CallX.freeze _ _ _ _ 43 126 3 _ _ rfl rfl ?_
       refine CallX.of (z244w (early f.plt t)) [(1000002, 5), (1000003, 43)] rfl ⟨lr, lr, trivial⟩ ⟨rr, rr, trivial⟩ rfl rfl ?_
       rintro x rout ⟨rfl, rfl⟩
       refine ⟨rfl, ?_⟩
       conv => whnf
       repeat' (first | (refine br_intro ?_ ?_ <;> intro hb <;> (try simp only [brs] at hb) <;> conv => whnf) | omega | (refine And.intro ?_ ?_; ((try dsimp only); first | omega | (refine szA rfl ?_; omega) | (refine szB rfl ?_; omega) | (unfold inI64; omega) | exact rfl | (simp only [lns] at *; omega) | decide | (unfold inI64; decide)); conv => whnf) | decide | assumption)
       refine .weak _ ?_
       conv => whnf
       refine ⟨.d (plts (worn f.plt t)), [], ?_, ⟨rfl, rfl⟩, trivial⟩
       have : worn f.plt t = [] := by unfold worn; rw [h0]; rfl
       rw [this]
       exact SV.le_nilS
     · refine ⟨rfl, ?_⟩
       conv => whnf
       repeat' (first | (refine br_intro ?_ ?_ <;> intro hb <;> (try simp only [brs] at hb) <;> conv => whnf) | omega | (refine And.intro ?_ ?_; ((try dsimp only); first | omega | (refine szA rfl ?_; omega) | (refine szB rfl ?_; omega) | (unfold inI64; omega) | exact rfl | (simp only [lns] at *; omega) | decide | (unfold inI64; decide)); conv => whnf) | decide | assumption)
       refine CallX.freeze _ _ _ _ 43 126 3 _ _ rfl rfl ?_
       have hB := z244b (early f.plt t) hE (early f.plt t) (by omega)
       rw [worn_246] at hB
       refine CallX.of hB [(1000001, 47), (41, 53), (1000002, 5), (1000003, 43)] rfl ⟨lr, lr, trivial⟩ ⟨rr, rr, rr, trivial⟩ rfl rfl ?_
       rintro x rout ⟨d, rfl | rfl, rfl, rfl⟩
       · refine ⟨rfl, ?_⟩
         conv => whnf
         repeat' (first | (refine br_intro ?_ ?_ <;> intro hb <;> (try simp only [brs] at hb) <;> conv => whnf) | omega | (refine And.intro ?_ ?_; ((try dsimp only); first | omega | (refine szA rfl ?_; omega) | (refine szB rfl ?_; omega) | (unfold inI64; omega) | exact rfl | (simp only [lns] at *; omega) | decide | (unfold inI64; decide)); conv => whnf) | decide | assumption)
         refine .freeze _ 47 126 3 _ _ rfl (.weak _ ?_)
         conv => whnf
         exact ⟨.d (plts (worn f.plt t)), [], lr, ⟨rfl, rfl⟩, trivial⟩
       · refine ⟨rfl, ?_⟩
         conv => whnf
         repeat' (first | (refine br_intro ?_ ?_ <;> intro hb <;> (try simp only [brs] at hb) <;> conv => whnf) | omega | (refine And.intro ?_ ?_; ((try dsimp only); first | omega | (refine szA rfl ?_; omega) | (refine szB rfl ?_; omega) | (unfold inI64; omega) | exact rfl | (simp only [lns] at *; omega) | decide | (unfold inI64; decide)); conv => whnf) | decide | assumption)
         refine .freeze _ 53 126 3 _ _ rfl (.weak _ ?_)
         conv => whnf
         exact ⟨.d (plts (worn f.plt t)), [], lr, ⟨rfl, rfl⟩, trivial⟩
   · refine ⟨rfl, ?_⟩
     conv => whnf
     repeat' (first | (refine br_intro ?_ ?_ <;> intro hb <;> (try simp only [brs] at hb) <;> conv => whnf) | omega | (refine And.intro ?_ ?_; ((try dsimp only); first | omega | (refine szA rfl ?_; omega) | (refine szB rfl ?_; omega) | (unfold inI64; omega) | exact rfl | (simp only [lns] at *; omega) | decide | (unfold inI64; decide)); conv => whnf) | decide | assumption)
     refine CallX.of (z137 (early f.plt t) (by omega)) [(1000001, 51), (7, 47)] rfl ⟨lr, trivial⟩ ⟨rr, trivial⟩ rfl rfl ?_
     rintro x rout (⟨rfl, h0, rfl⟩ | ⟨rfl, rfl⟩)
     · refine ⟨rfl, ?_⟩
       conv => whnf
       repeat' (first | (refine br_intro ?_ ?_ <;> intro hb <;> (try simp only [brs] at hb) <;> conv => whnf) | omega | (refine And.intro ?_ ?_; ((try dsimp only); first | omega | (refine szA rfl ?_; omega) | (refine szB rfl ?_; omega) | (unfold inI64; omega) | exact rfl | (simp only [lns] at *; omega) | decide | (unfold inI64; decide)); conv => whnf) | decide | assumption)
       refine CallX.freeze _ _ _ _ 51 126 3 _ _ rfl rfl ?_
       refine CallX.of (z244w (early f.plt t)) [(1000002, 5), (1000003, 51)] rfl ⟨lr, lr, trivial⟩ ⟨rr, rr, trivial⟩ rfl rfl ?_
       rintro x rout ⟨rfl, rfl⟩
       refine ⟨rfl, ?_⟩
       conv => whnf
       repeat' (first | (refine br_intro ?_ ?_ <;> intro hb <;> (try simp only [brs] at hb) <;> conv => whnf) | omega | (refine And.intro ?_ ?_; ((try dsimp only); first | omega | (refine szA rfl ?_; omega) | (refine szB rfl ?_; omega) | (unfold inI64; omega) | exact rfl | (simp only [lns] at *; omega) | decide | (unfold inI64; decide)); conv => whnf) | decide | assumption)
       refine .weak _ ?_
       conv => whnf
       refine ⟨.d (plts (worn f.plt t)), [], ?_, ⟨rfl, rfl⟩, trivial⟩
       have : worn f.plt t = [] := by unfold worn; rw [h0]; rfl
       rw [this]
       exact SV.le_nilS
     · refine ⟨rfl, ?_⟩
       conv => whnf
       repeat' (first | (refine br_intro ?_ ?_ <;> intro hb <;> (try simp only [brs] at hb) <;> conv => whnf) | omega | (refine And.intro ?_ ?_; ((try dsimp only); first | omega | (refine szA rfl ?_; omega) | (refine szB rfl ?_; omega) | (unfold inI64; omega) | exact rfl | (simp only [lns] at *; omega) | decide | (unfold inI64; decide)); conv => whnf) | decide | assumption)
       refine CallX.freeze _ _ _ _ 51 126 3 _ _ rfl rfl ?_
       have hB := z244b (early f.plt t) hE (early f.plt t) (by omega)
       rw [worn_246] at hB
       refine CallX.of hB [(1000001, 47), (41, 53), (1000002, 5), (1000003, 51)] rfl ⟨lr, lr, trivial⟩ ⟨rr, rr, rr, trivial⟩ rfl rfl ?_
       rintro x rout ⟨d, rfl | rfl, rfl, rfl⟩
       · refine ⟨rfl, ?_⟩
         conv => whnf
         repeat' (first | (refine br_intro ?_ ?_ <;> intro hb <;> (try simp only [brs] at hb) <;> conv => whnf) | omega | (refine And.intro ?_ ?_; ((try dsimp only); first | omega | (refine szA rfl ?_; omega) | (refine szB rfl ?_; omega) | (unfold inI64; omega) | exact rfl | (simp only [lns] at *; omega) | decide | (unfold inI64; decide)); conv => whnf) | decide | assumption)
         refine .freeze _ 47 126 3 _ _ rfl (.weak _ ?_)
         conv => whnf
         exact ⟨.d (plts (worn f.plt t)), [], lr, ⟨rfl, rfl⟩, trivial⟩
       · refine ⟨rfl, ?_⟩
         conv => whnf
         repeat' (first | (refine br_intro ?_ ?_ <;> intro hb <;> (try simp only [brs] at hb) <;> conv => whnf) | omega | (refine And.intro ?_ ?_; ((try dsimp only); first | omega | (refine szA rfl ?_; omega) | (refine szB rfl ?_; omega) | (unfold inI64; omega) | exact rfl | (simp only [lns] at *; omega) | decide | (unfold inI64; decide)); conv => whnf) | decide | assumption)
         refine .freeze _ 53 126 3 _ _ rfl (.weak _ ?_)
         conv => whnf
         exact ⟨.d (plts (worn f.plt t)), [], lr, ⟨rfl, rfl⟩, trivial⟩
theorem wear_hit {l : List Plt} {p : List UInt8} {t : Int} {i : Nat} (hi : i < (worn l t).length) (h : ∀ j, j < i → decide (((worn l t).getD j plt0).plt = p) = false) (q : ((worn l t).getD i plt0).plt = p) : findP (worn l t) p = some ((worn l t).getD i plt0) :=
 by unfold findP; exact find_hit (d := plt0) (p := fun e : Plt => decide (e.plt = p)) hi h (by simpa using q)
theorem wear_no {l : List Plt} {p : List UInt8} {t : Int} (h : ∀ j, j < (worn l t).length → decide (((worn l t).getD j plt0).plt = p) = false) : findP (worn l t) p = none :=
 by unfold findP; exact find_none (d := plt0) (p := fun e : Plt => decide (e.plt = p)) h
theorem z121 (f : Flt) (hl : f.plt.length ≤ 1000) (p : List UInt8) (t : Int) : FSpec Tryz.prog 121 [flt f, .d (.str p), .d (.int .i64 t)] [] (fun y r => y = .tup [.d (.str (wearV f.plt p t)), .d (.bool (findP (worn f.plt t) p).isSome)] ∧ r = []) := by
 have hw := worn_len f.plt t
 refine spec_of hT (C := []) Tryz.func121 rfl Tryz.call121 rfl rfl rfl ?_
 conv => whnf
 repeat' (first | (refine CallX.exact (z179 f hl t) rfl rfl ?_; rotate_right; conv => whnf) | (refine br_intro ?_ ?_ <;> intro hb <;> (try simp only [brs] at hb) <;> conv => whnf) | omega | (refine And.intro ?_ ?_; ((try dsimp only); first | omega | (refine szA rfl ?_; omega) | (refine szB rfl ?_; omega) | (unfold inI64; omega) | exact rfl | (simp only [lns] at *; omega) | decide | (unfold inI64; decide)); conv => whnf) | decide | assumption)
 refine LoopX.rule hT (C := []) (ι := Nat) (fun i => i ≤ (worn f.plt t).length ∧ ∀ j, j < i → decide (((worn f.plt t).getD j plt0).plt = p) = false) (fun i => mkSt [(1, .d (.str p)), (12, .d (plts (worn f.plt t))), (13, .d (.int .i64 (worn f.plt t).length)), (14, .d (.int .i64 i))] []) (fun i => (worn f.plt t).length - i) 0 ⟨by omega, by omega⟩ (by (refine Entails.mk' [] rfl rfl ?_ ?_ <;> repeat' (first | exact True.intro | exact lr | exact rr | exact SV.le_int (by omega) | exact SV.le_any _ | refine And.intro ?_ ?_)); done) ?_
 rintro i ⟨p1, p2⟩
 have e1 : (i : Int).toNat = i := Int.toNat_natCast i
 conv => whnf
 repeat' (first | (refine br_intro ?_ ?_ <;> intro hb <;> (try simp only [brs] at hb) <;> conv => whnf) | omega | (refine And.intro ?_ ?_; ((try dsimp only); first | omega | (refine szA rfl ?_; omega) | (refine szB rfl ?_; omega) | (unfold inI64; omega) | exact rfl | (simp only [lns] at *; omega) | decide | (unfold inI64; decide)); conv => whnf) | decide | assumption)
 · have hf := wear_hit (by omega) p2 hb
   refine .ret _ ?_
   conv => whnf
   refine ⟨[], ⟨congrArg SV.tup ?_, rfl⟩, trivial⟩
   repeat' (refine cons_eq ?_ ?_)
   all_goals (conv => lhs; whnf)
   all_goals try (with_reducible rfl)
   · unfold wearV; rw [hf, e1]; rfl
   · rw [hf]; rfl
 · exact ⟨i + 1, ⟨by omega, all_step p2 (by simpa using hb)⟩, by omega, (by (refine Entails.mk' [] rfl rfl ?_ ?_ <;> repeat' (first | exact True.intro | exact lr | exact rr | exact SV.le_int (by omega) | exact SV.le_any _ | refine And.intro ?_ ?_)); done)⟩
 · have : i = (worn f.plt t).length := by omega
   subst this
   have hf := wear_no p2
   refine .ret _ ?_
   conv => whnf
   refine ⟨[], ⟨congrArg SV.tup ?_, rfl⟩, trivial⟩
   repeat' (refine cons_eq ?_ ?_)
   all_goals (conv => lhs; whnf)
   all_goals try (with_reducible rfl)
   · unfold wearV; rw [hf]; rfl
   · rw [hf]; rfl
theorem z46 (f : Flt) (hl : f.plt.length ≤ 1000) (h : List Hir) (hh : h.length ≤ 2^40) (hs : ∀ x ∈ h, lgSeq x.legs) (hk : ∀ x ∈ h, x.legs.length ≤ 2^40) (p : List UInt8) (t : Int) :
 FSpec Tryz.prog 46 [flt f, .d (hirs h), .d (.str p), .d (.int .i64 t)] [] (fun y r => y = .tup [.d (.str (wearV f.plt p t)), .d (.str (ownR f.plt h p t))] ∧ r = []) := by
 refine spec_of hT (C := []) Tryz.func46 rfl Tryz.call46 rfl rfl rfl ?_
 conv => whnf
 repeat' (first | (refine CallX.exact (z121 f hl p t) rfl rfl ?_; rotate_right; conv => whnf) | (refine CallX.exact (z103 h hh hs hk (wearV f.plt p t) t) rfl rfl ?_; rotate_right; conv => whnf) | (refine br_intro ?_ ?_ <;> intro hb <;> (try simp only [brs] at hb) <;> conv => whnf) | omega | (refine And.intro ?_ ?_; ((try dsimp only); first | omega | (refine szA rfl ?_; omega) | (refine szB rfl ?_; omega) | (unfold inI64; omega) | exact rfl | (simp only [lns] at *; omega) | decide | (unfold inI64; decide)); conv => whnf) | decide | assumption)
 · refine .ret _ ?_
   conv => whnf
   refine ⟨[], ⟨congrArg SV.tup ?_, rfl⟩, trivial⟩
   repeat' (refine cons_eq ?_ ?_)
   all_goals (conv => lhs; whnf)
   all_goals try (with_reducible rfl)
   · rw [hb]
   · unfold ownR; rw [if_pos hb]
 · refine .ret _ ?_
   conv => whnf
   refine ⟨[], ⟨congrArg SV.tup ?_, rfl⟩, trivial⟩
   repeat' (refine cons_eq ?_ ?_)
   all_goals (conv => lhs; whnf)
   all_goals try (with_reducible rfl)
   unfold ownR; rw [if_neg hb]
theorem s130 (D C F : Int) (l : List Pas) (hl : l.length ≤ 1000) (hp : ∀ p ∈ l, 0 ≤ p.tm ∧ p.tm ≤ 5761439) :
 FSpec Tryz.prog 127 [.agg [.d (.int .i64 D), .d (.int .i64 C), .d (.int .i64 F)], .d (pass l)] [] (fun x r => x = .d (seqD 1 bF false (fillA false (dblB D l) l.length l.length)) ∧ r = []) := by
 refine spec_of hT (C := []) Tryz.func127 rfl Tryz.call127 rfl rfl rfl ?_
 conv => whnf
 repeat' (first | (refine br_intro ?_ ?_ <;> intro hb <;> (try simp only [brs] at hb) <;> conv => whnf) | omega | (refine And.intro ?_ ?_; ((try dsimp only); first | omega | (refine szA rfl ?_; omega) | (refine szB rfl ?_; omega) | (unfold inI64; omega) | (simp only [lns] at *; omega) | decide | (unfold inI64; decide)); conv => whnf) | decide | assumption)
 refine LoopX.rule hT (C := []) (ι := Nat) (fun i => i ≤ l.length) (fun i => mkSt [(2, .ptr 2 0), (5, .mp 5), (6, .buf 6), (16, .d (pass l)), (17, .d (.int .i64 l.length)), (18, .d (.int .i64 i))] [(2, .cells 95 [.d (.int .i64 D), .d (.int .i64 C), .d (.int .i64 F)]), (5, seenR (dblM D l i)), (6, seqB 4 1 bF false (fillA false (dblB D l) l.length i))]) (fun i => l.length - i) 0 (by omega) ?_ ?_
 · refine Entails.mk' [(2, 2), (5, 12), (6, 15)] rfl rfl ⟨lr, lr, lr, lr, lr, lr, trivial⟩ ⟨rr, Res.le_map (fun key hk => ?_), Res.le_buf (by rw [fillA_length]; rfl) (fun j hj => ?_), trivial⟩
   · obtain ⟨a, b, rfl⟩ := wk_ss hk
     exact ⟨rfl, rfl⟩
   · have hj : j < l.length := hj
     rw [rowF_lt (by rw [fillA_length]; exact hj)]
     simp [fillA, bF]
     rfl
 rintro i p1
 have e1 : (i : Int).toNat = i := Int.toNat_natCast i
 have hpi : (i : Int) < l.length → 0 ≤ (l.getD (i : Int).toNat pa0).tm ∧ (l.getD (i : Int).toNat pa0).tm ≤ 5761439 := fun hi => hp _ (getD_mem (by omega))
 have hlen : (fillA false (dblB D l) l.length i).length = l.length := fillA_length
 have hm : ∀ q, 0 ≤ (dblM D l i q).getD 0 ∧ (dblM D l i q).getD 0 ≤ 5761439 := fun q => by
  cases hq : dblM D l i q with
  | none => simp
  | some t => simpa using dblM_bd hp i p1 q t hq
 have hm0 := hm ((l.getD (i : Int).toNat pa0).plate, (l.getD (i : Int).toNat pa0).gate)
 conv => whnf
 repeat' (first | (refine And.intro (rfl : zrow _ = some [DV.int .i64 0]) ?_; conv => whnf) | (simp only [Nat.beq_refl, cond_true]; conv => whnf) | (refine br_intro ?_ ?_ <;> intro hb <;> (try simp only [brs] at hb) <;> conv => whnf) | omega | (refine And.intro ?_ ?_; ((try dsimp only); first | omega | (refine szA rfl ?_; omega) | (refine szB rfl ?_; omega) | (unfold inI64; omega) | (simp only [lns] at *; omega) | decide | (unfold inI64; decide)); conv => whnf) | decide | assumption)
 · rename_i hb1
   have hB : dblB D l i = false := by rw [dblB_eq, decide_eq_false (by omega), Bool.and_false]
   have hM : ∀ a b, dblM D l (i + 1) (a, b) = if a = (l.getD i pa0).plate ∧ b = (l.getD i pa0).gate then some (l.getD i pa0).tm else dblM D l i (a, b) := fun a b => by
    rw [dblM, if_neg (by show ¬ dblB D l i = true; rw [hB]; simp)]
    simp [Prod.ext_iff]
   refine ⟨i + 1, by omega, by omega, Entails.mk' [(2, 2), (5, 5), (6, 6)] rfl rfl ⟨lr, lr, lr, lr, lr, lr, trivial⟩ ⟨rr, Res.le_map (fun key hk => ?_), ?_, trivial⟩⟩
   · obtain ⟨a, b, rfl⟩ := wk_ss hk
     rw [e1]
     simp only [keyEq, keyEq1, Bool.and_true, mHas, mVal, hM]
     by_cases hab : a = (l.getD i pa0).plate ∧ b = (l.getD i pa0).gate
     · rw [if_pos hab, hab.1, hab.2]; simp
     · rw [if_neg hab]
       have : (a == (l.getD i pa0).plate && b == (l.getD i pa0).gate) = false := by
        cases hq : (a == (l.getD i pa0).plate && b == (l.getD i pa0).gate) with
        | false => rfl
        | true => simp at hq; exact absurd hq hab
       rw [this]; simp
   · rw [← fillA_set' (x := false) hB.symm]
     first
      | exact Res.le_putF (fun y _ => rfl)
      | (refine Res.le_putF (x := false) (fun y _ => ?_)
         show [DV.bool _] = [DV.bool _]
         rw [e1]; simpa using hb)
 · rename_i hb1
   have hB : dblB D l i = true := by rw [dblB_eq, decide_eq_true hb, Bool.and_true]; exact hb1
   refine ⟨i + 1, by omega, by omega, Entails.mk' [(2, 2), (5, 5), (6, 6)] rfl rfl ⟨lr, lr, lr, lr, lr, lr, trivial⟩ ⟨rr, ?_, ?_, trivial⟩⟩
   · have : dblM D l (i + 1) = dblM D l i := by rw [dblM]; exact if_pos hB
     rw [this]; exact rr
   · rw [← fillA_set' (x := decide ((l.getD (i : Int).toNat pa0).tm - (dblM D l i ((l.getD (i : Int).toNat pa0).plate, (l.getD (i : Int).toNat pa0).gate)).getD 0 < D)) (by rw [hB, e1]; simpa using hb)]
     exact Res.le_putF (fun y _ => rfl)
 · have hB : dblB D l i = false := by
    rw [dblB_eq, Bool.and_eq_false_iff]; exact .inl hb
   have hM : ∀ a b, dblM D l (i + 1) (a, b) = if a = (l.getD i pa0).plate ∧ b = (l.getD i pa0).gate then some (l.getD i pa0).tm else dblM D l i (a, b) := fun a b => by
    rw [dblM, if_neg (by show ¬ dblB D l i = true; rw [hB]; simp)]
    simp [Prod.ext_iff]
   refine ⟨i + 1, by omega, by omega, Entails.mk' [(2, 2), (5, 5), (6, 6)] rfl rfl ⟨lr, lr, lr, lr, lr, lr, trivial⟩ ⟨rr, Res.le_map (fun key hk => ?_), ?_, trivial⟩⟩
   · obtain ⟨a, b, rfl⟩ := wk_ss hk
     rw [e1]
     simp only [keyEq, keyEq1, Bool.and_true, mHas, mVal, hM]
     by_cases hab : a = (l.getD i pa0).plate ∧ b = (l.getD i pa0).gate
     · rw [if_pos hab, hab.1, hab.2]; simp
     · rw [if_neg hab]
       have : (a == (l.getD i pa0).plate && b == (l.getD i pa0).gate) = false := by
        cases hq : (a == (l.getD i pa0).plate && b == (l.getD i pa0).gate) with
        | false => rfl
        | true => simp at hq; exact absurd hq hab
       rw [this]; simp
   · rw [← fillA_set' (x := false) hB.symm]
     first
      | exact Res.le_putF (fun y _ => rfl)
      | (refine Res.le_putF (x := false) (fun y _ => ?_)
         show [DV.bool _] = [DV.bool _]
         rw [e1]; simpa using hb)
 · refine .freeze _ 6 4 1 _ _ rfl ?_
   have : i = l.length := by omega
   subst this
   refine .ret _ ?_
   conv => whnf
   refine ⟨[], ⟨?_, rfl⟩, trivial⟩
   conv => lhs; whnf
theorem s65 (g : List Gate) (D C F : Int) (l : List Pas) (hg : gOk g) (hl : pOk l) :
 FSpec Tryz.prog 59 [.d (gates g), .agg [.d (.int .i64 D), .d (.int .i64 C), .d (.int .i64 F)], .d (pass l)] [] (fun x r => x = .tup [.d (if dblsE D C F g l = 0 then ints (dblIx D l l.length) else .nilsl), .d (.int .i64 (dblsE D C F g l))] ∧ r = []) := by
 refine spec_of hT (C := []) Tryz.func59 rfl Tryz.call59 rfl rfl rfl ?_
 conv => whnf
 repeat' (first | (refine CallX.exact (s66 _ _ _) rfl rfl ?_; rotate_right; conv => whnf) | (refine CallX.exact (s90 g l hg hl) rfl rfl ?_; rotate_right; conv => whnf) | (refine CallX.pure (s105 [_, _] (by simp)) ⟨SV.le_lit (by rfl) (by rfl), trivial⟩ rfl ?_; conv => whnf) | (refine br_intro ?_ ?_ <;> intro hb <;> (try simp only [brs] at hb) <;> conv => whnf) | omega | (refine And.intro ?_ ?_; ((try dsimp only); first | omega | (refine szA rfl ?_; omega) | (refine szB rfl ?_; omega) | (unfold inI64; omega) | (simp only [lns] at *; omega) | decide | (unfold inI64; decide)); conv => whnf) | decide | assumption)
 · have hb : ¬ dblsE D C F g l = 0 := hb
   refine .ret _ ?_
   conv => whnf
   refine ⟨[], ⟨congrArg SV.tup ?_, rfl⟩, trivial⟩
   repeat' (refine cons_eq ?_ ?_)
   all_goals (conv => lhs; whnf)
   all_goals try (with_reducible rfl)
   · rw [if_neg hb]
   · rfl
 have hb : dblsE D C F g l = 0 := hb
 rw [hb]
 have hz : chkE g l = 0 := by simp only [dblsE, firstE] at hb; grind
 obtain ⟨⟨n1, n2⟩, n3, n4⟩ := chk_zero hz
 repeat' (first | (refine CallX.exact (s130 _ _ _ l n3 n4) rfl rfl ?_; rotate_right; conv => whnf) | (refine br_intro ?_ ?_ <;> intro hb <;> (try simp only [brs] at hb) <;> conv => whnf) | omega | (refine And.intro ?_ ?_; ((try dsimp only); first | omega | (refine szA rfl ?_; omega) | (refine szB rfl ?_; omega) | (unfold inI64; omega) | (simp only [lns] at *; omega) | decide | (unfold inI64; decide)); conv => whnf) | decide | assumption)
 refine LoopX.rule hT (C := []) (ι := Nat) (fun i => i ≤ l.length) (fun i => mkSt [(9, .buf 9), (24, .d (seqD 1 bF false (fillA false (dblB D l) l.length l.length))), (25, .d (.int .i64 l.length)), (26, .d (.int .i64 i))] [(9, seqB 3 1 iF 0 (dblIx D l i))]) (fun i => l.length - i) 0 (by omega) ?_ ?_
 · exact (Entails.nil 9 9 3 1 (rowF iF 0 []) rfl rfl (by decide)).trans (by (refine Entails.mk' [(9, 9)] rfl rfl ?_ ?_ <;> repeat' (first | exact True.intro | exact lr | exact rr | (refine SV.le_int ?_; rw [fillA_length]) | exact SV.le_int (by omega) | exact SV.le_any _ | refine And.intro ?_ ?_)); done)
 rintro i p1
 have e1 : (i : Int).toNat = i := Int.toNat_natCast i
 have hlen : (fillA false (dblB D l) l.length l.length).length = l.length := fillA_length
 have hdl := dblIx_len (D := D) (l := l) (n := i)
 conv => whnf
 repeat' (first | (refine br_intro ?_ ?_ <;> intro hb <;> (try simp only [brs] at hb) <;> conv => whnf) | omega | (refine And.intro ?_ ?_; ((try dsimp only); first | omega | (refine szA rfl ?_; omega) | (refine szB rfl ?_; omega) | (unfold inI64; omega) | (simp only [lns] at *; omega) | decide | (unfold inI64; decide)); conv => whnf) | decide | assumption)
 · rw [fillA_get (by omega)] at hb
   refine ⟨i + 1, by omega, by omega, Entails.mk' [(9, 35)] rfl rfl ⟨lr, lr, lr, lr, trivial⟩ ⟨?_, trivial⟩⟩
   rw [dblIx_succ, if_pos hb]; exact Res.le_snocF (by rfl)
 · rw [fillA_get (by omega)] at hb
   refine ⟨i + 1, by omega, by omega, Entails.mk' [(9, 9)] rfl rfl ⟨lr, lr, lr, lr, trivial⟩ ⟨?_, trivial⟩⟩
   rw [dblIx_succ, if_neg (by rw [hb]; simp), List.append_nil]; exact rr
 · have : i = l.length := by omega
   subst this
   refine .freeze _ 9 3 1 _ _ rfl ?_
   refine .ret _ ?_
   conv => whnf
   refine ⟨[], ⟨congrArg SV.tup ?_, rfl⟩, trivial⟩
   repeat' (refine cons_eq ?_ ?_)
   all_goals (conv => lhs; whnf)
   all_goals try (with_reducible rfl)
   rw [if_pos rfl]
theorem s24 : FSpec Tryz.prog 30 [] [] (fun x r => x = .d (.bool true) ∧ r = []) := by
 have h := s65 tolG 5 0 0 tolP ⟨by decide, by decide⟩ ⟨by decide, by decide⟩
 rw [tol_zero, if_pos rfl, tol_ix] at h
 refine spec_of hT (C := []) Tryz.func30 rfl Tryz.call30 rfl rfl rfl ?_
 conv => whnf
 repeat' (first | (refine CallX.pure h ⟨SV.le_lit (l := tolG) rfl rfl, lr, SV.le_lit (l := tolP) rfl rfl, trivial⟩ rfl ?_; conv => whnf) | (refine CallX.pure (s37 [1] [1] (by simp) (by simp)) ⟨lr, SV.le_lit rfl rfl, trivial⟩ rfl ?_; conv => whnf) | (refine br_intro ?_ ?_ <;> intro hb <;> (try simp only [brs] at hb) <;> conv => whnf) | omega | (refine And.intro ?_ ?_; ((try dsimp only); first | omega | (refine szA rfl ?_; omega) | (refine szB rfl ?_; omega) | (unfold inI64; omega) | (simp only [lns] at *; omega) | decide | (unfold inI64; decide)); conv => whnf) | decide | assumption)
 all_goals
  refine .ret _ ?_
  conv => whnf
  refine ⟨[], ⟨?_, rfl⟩, trivial⟩
  conv => lhs; whnf
  simp
theorem fltE_veh {f : Flt} (h : fltE f = 0) : ∀ j, j < f.veh.length → vehE1 f j = 0 := by
 unfold fltE at h
 have h0 : firstAt (vehE1 f) f.veh.length = 0 := by
  split at h
  · exact absurd h (by assumption)
  · split at h
    · exact absurd h (by assumption)
    · rename_i q; simpa using q
 exact firstAt_all h0
theorem plt_veh {f : Flt} (h : fltE f = 0) : ∀ e ∈ f.plt, e.veh ≠ [] := by
 intro e he q
 obtain ⟨j, hj, rfl⟩ := mem_getD (d := plt0) he
 have h1 := fltE_plt h j hj
 unfold pltE1 at h1
 have h2 : 0 ≤ veIx f.veh (f.plt.getD j plt0).veh := by grind
 have hb := ixF_bd (p := fun i => (f.veh.getD i veh0).key == (f.plt.getD j plt0).veh) (n := f.veh.length)
 have h3 := hb.2.2 h2
 have h4 := hb.2.1
 have h5 := fltE_veh h (ixF (fun i => (f.veh.getD i veh0).key == (f.plt.getD j plt0).veh) f.veh.length).toNat (by unfold veIx at h2; omega)
 unfold vehE1 at h5
 simp only [beq_iff_eq] at h3
 rw [h3, q] at h5
 rw [if_pos (by decide)] at h5
 cases h5
structure DInv (T : Int) (s : HS) : Prop where
 pw : ∀ p, (s.out p).Pairwise fun a b => a.til ≤ b.frm
 ok : ∀ p, ∀ h ∈ s.out p, h.frm < h.til ∧ h.til ≤ T ∧ h.veh ≠ []
 lv : ∀ e ∈ s.live, e.veh ≠ [] ∧ ∀ h ∈ s.out e.plt, h.til ≤ e.frm
theorem DInv.mono {T U : Int} {s : HS} (h : DInv T s) (q : T ≤ U) : DInv U s :=
 ⟨h.pw, fun p x hx => by have := h.ok p x hx; exact ⟨this.1, by omega, this.2.2⟩, h.lv⟩
theorem DInv.drop {T : Int} {s : HS} (h : DInv T s) (p : List UInt8) : DInv T (hdrop s p T) := by
 cases hf : findP s.live p with
 | none =>
   have : hdrop s p T = s := by unfold hdrop; rw [hf]
   rw [this]; exact h
 | some e =>
   obtain ⟨e1, e2⟩ := findP_some hf
   have hl := hdrop_live s p T
   have ho : ∀ q, (hdrop s p T).out q = if q = p ∧ e.frm < T then s.out q ++ [⟨e.veh, e.frm, T⟩] else s.out q := by intro q; unfold hdrop; rw [hf]
   have he := h.lv e e1
   refine ⟨fun q => ?_, fun q x hx => ?_, fun x hx => ?_⟩
   · rw [ho]
     split
     · rename_i c
       rw [List.pairwise_append]
       refine ⟨h.pw q, List.pairwise_singleton _ _, fun a ha b hb => ?_⟩
       rw [List.mem_singleton] at hb; subst hb
       exact he.2 a (by rw [e2, ← c.1]; exact ha)
     · exact h.pw q
   · rw [ho] at hx
     split at hx
     · rename_i c
       rcases List.mem_append.1 hx with r | r
       · exact h.ok q x r
       · rw [List.mem_singleton] at r; subst r
         exact ⟨c.2, Int.le_refl _, he.1⟩
     · exact h.ok q x hx
   · rw [hl, List.mem_filter] at hx
     have hne : x.plt ≠ p := by simpa using hx.2
     refine ⟨(h.lv x hx.1).1, fun y hy => ?_⟩
     rw [ho, if_neg (by intro c; exact hne c.1)] at hy
     exact (h.lv x hx.1).2 y hy
theorem DInv.step {T : Int} {s : HS} (h : DInv T s) {x : Plt} (hx : x.frm = T) (hv : x.veh ≠ []) : DInv T (hstep s x) := by
 have h1 : DInv T (hmid s x) := by
  unfold hmid
  split
  · exact h
  · rw [hx]; exact h.drop _
 have h2 := h1.drop x.plt
 unfold hstep
 rw [hx]
 refine ⟨h2.pw, h2.ok, fun e he => ?_⟩
 rcases List.mem_append.1 he with q | q
 · exact h2.lv e q
 · rw [List.mem_singleton] at q; subst q
   exact ⟨hv, fun y hy => by rw [hx]; exact (h2.ok _ y hy).2.1⟩
theorem hall_d (l : List Plt) : srtP l → (∀ e ∈ l, e.veh ≠ []) → ∀ T, (∀ e ∈ l, e.frm ≤ T) → DInv T (hall l) := by
 refine snoc_ind (P := fun l => srtP l → (∀ e ∈ l, e.veh ≠ []) → ∀ T, (∀ e ∈ l, e.frm ≤ T) → DInv T (hall l)) ?_ ?_ l
 · intro _ _ T _
   exact ⟨fun p => List.Pairwise.nil, fun p h hh => (by cases hh), fun e he => (by cases he)⟩
 · intro l x ih hs hv T hT
   unfold srtP at hs
   rw [List.pairwise_append] at hs
   have h1 := ih hs.1 (fun e he => hv e (by simp [he])) x.frm (fun e he => hs.2.2 e he x (by simp))
   have h2 := h1.step rfl (hv x (by simp))
   have e : hall (l ++ [x]) = hstep (hall l) x := by unfold hall; rw [List.foldl_append]; rfl
   rw [e]
   exact h2.mono (hT x (by simp))
theorem hdrops_d {T : Int} : ∀ (m : List Plt) (s : HS), DInv T s → DInv T (m.foldl (fun s x => hdrop s x.plt T) s)
 | [], _, h => h
 | x :: m, s, h => hdrops_d m _ (h.drop x.plt)
theorem hend_d {f : Flt} (h : fltE f = 0) : DInv 5761440 (hend f.plt) := by
 have hm := fltE_mom h
 exact hdrops_d _ _ (hall_d f.plt (fltE_srt h).1 (plt_veh h) 5761440 fun e he => by have := hm e he; omega)
def hitT (t : Int) (w : Win) : Bool := decide (w.1 ≤ t) && decide (t < w.2)
def cutG (w : Hld) (g : Leg) : List Win := if g.veh = w.veh ∧ max g.out.tm w.frm < min (lastE g) w.til then [⟨max g.out.tm w.frm, min (lastE g) w.til⟩] else []
def cutHh (w : Hld) (h : Hir) : List Win := h.legs.flatMap (cutG w)
def cutHl (w : Hld) (l : List Hir) : List Win := l.flatMap (cutHh w)
def allW (o : List Hld) (l : List Hir) : List Win := o.flatMap fun w => cutHl w l
theorem allW_hit (o : List Hld) (l : List Hir) (t : Int) : (∃ w ∈ allW o l, hitT t w = true) ↔ ∃ w ∈ o, inH t w = true ∧ ∃ h ∈ l, occ w.veh h t = true := by
 unfold allW cutHl cutHh
 constructor
 · rintro ⟨w, hw, ht⟩
   rw [List.mem_flatMap] at hw
   obtain ⟨x, hx, hw⟩ := hw
   rw [List.mem_flatMap] at hw
   obtain ⟨h, hh, hw⟩ := hw
   rw [List.mem_flatMap] at hw
   obtain ⟨g, hg, hw⟩ := hw
   unfold cutG at hw
   split at hw
   · rename_i c
     rw [List.mem_singleton] at hw
     subst hw
     unfold hitT at ht
     simp only [Bool.and_eq_true, decide_eq_true_eq] at ht
     refine ⟨x, hx, ?_, h, hh, ?_⟩
     · unfold inH; simp only [Bool.and_eq_true, decide_eq_true_eq]; omega
     · unfold occ
       rw [List.any_eq_true]
       refine ⟨g, hg, ?_⟩
       unfold onL; simp only [Bool.and_eq_true, decide_eq_true_eq]
       exact ⟨c.1, by omega, by omega⟩
   · cases hw
 · rintro ⟨x, hx, hi, h, hh, ho⟩
   unfold occ at ho
   rw [List.any_eq_true] at ho
   obtain ⟨g, hg, ho⟩ := ho
   unfold onL at ho
   unfold inH at hi
   simp only [Bool.and_eq_true, decide_eq_true_eq] at ho hi
   refine ⟨⟨max g.out.tm x.frm, min (lastE g) x.til⟩, ?_, ?_⟩
   · refine List.mem_flatMap.2 ⟨x, hx, List.mem_flatMap.2 ⟨h, hh, List.mem_flatMap.2 ⟨g, hg, ?_⟩⟩⟩
     unfold cutG
     rw [if_pos ⟨ho.1, by omega⟩]
     exact List.mem_singleton.2 rfl
   · unfold hitT; simp only [Bool.and_eq_true, decide_eq_true_eq]; omega
theorem look_in {o : List Hld} (hp : o.Pairwise fun a b => a.til ≤ b.frm) (hk : ∀ h ∈ o, h.frm < h.til) {w : Hld} (hw : w ∈ o) {t : Int} (hi : inH t w = true) : lookV o t = w.veh := by
 induction o with
 | nil => cases hw
 | cons x o ih =>
   rw [List.pairwise_cons] at hp
   unfold lookV findH
   rw [List.find?_cons]
   cases hx : inH t x with
   | true =>
     rcases List.mem_cons.1 hw with rfl | q
     · rfl
     · have := hp.1 w q
       have := hk w (by simp [q])
       unfold inH at hx hi
       simp only [Bool.and_eq_true, decide_eq_true_eq] at hx hi
       omega
   | false =>
     rcases List.mem_cons.1 hw with rfl | q
     · rw [hi] at hx; cases hx
     · exact ih hp.2 (fun h hh => hk h (by simp [hh])) q
theorem hirIx_pos (l : List Hir) (v : List UInt8) (t : Int) : 0 ≤ hirIx l v t ↔ ∃ h ∈ l, occ v h t = true := by
 have hb := ixF_bd (p := fun i => occ v (l.getD i hi0) t) (n := l.length)
 have hf := ixF_first (p := fun i => occ v (l.getD i hi0) t) (n := l.length)
 unfold hirIx
 constructor
 · intro h
   exact ⟨_, getD_mem (by omega), hb.2.2 h⟩
 · rintro ⟨h, hh, ho⟩
   obtain ⟨j, hj, rfl⟩ := mem_getD (d := hi0) hh
   rcases Int.lt_or_le (ixF (fun i => occ v (l.getD i hi0) t) l.length) 0 with q | q
   · have := hf j hj (.inl (by omega))
     rw [ho] at this; cases this
   · exact q
theorem allW_own {f : Flt} {l : List Hir} (h : fltE f = 0) (p : List UInt8) (t : Int) : (∃ w ∈ allW ((hend f.plt).out p) l, hitT t w = true) ↔ 0 ≤ ownK ((hend f.plt).out p) l t := by
 have hd := hend_d h
 have hp := hd.pw p
 have hk := hd.ok p
 generalize (hend f.plt).out p = o at hp hk
 rw [allW_hit]
 unfold ownK
 constructor
 · rintro ⟨w, hw, hi, hh⟩
   have hl := look_in hp (fun h hh => (hk h hh).1) hw hi
   rw [hl, if_neg (hk w hw).2.2, hirIx_pos]
   exact hh
 · intro q
   by_cases c : lookV o t = []
   · rw [if_pos c] at q; omega
   · rw [if_neg c, hirIx_pos] at q
     unfold lookV findH at c
     cases hf : o.find? (inH t) with
     | none => rw [hf] at c; exact absurd rfl c
     | some w =>
       have h1 := List.find?_some hf
       have h2 := List.mem_of_find?_eq_some hf
       exact ⟨w, h2, h1, by rw [← look_in hp (fun h hh => (hk h hh).1) h2 h1]; exact q⟩
structure Mrg (S : List Win) (n : Nat) (out : List Win) : Prop where
 hit : ∀ t, (∃ w ∈ out, hitT t w = true) ↔ ∃ w ∈ S.take n, hitT t w = true
 pw : out.Pairwise fun a b => a.2 < b.1
 ok : ∀ w ∈ out, w.1 < w.2
 le : ∀ w ∈ out, ∀ x ∈ S.drop n, w.1 ≤ x.1
 len : out.length ≤ n
 bd : ∀ w ∈ out, 0 ≤ w.1 ∧ w.2 ≤ 5761440
theorem Mrg.nil (S : List Win) : Mrg S 0 [] := ⟨fun t => by simp, List.Pairwise.nil, by simp, by simp, by simp, by simp⟩
theorem take_mem {S : List Win} {n : Nat} (hn : n < S.length) {P : Win → Prop} : (∃ w ∈ S.take (n + 1), P w) ↔ (∃ w ∈ S.take n, P w) ∨ P (S.getD n vw0) := by
 rw [List.take_succ_eq_append_getElem hn]
 have : S.getD n vw0 = S[n] := by simp [List.getD_eq_getElem?_getD, hn]
 rw [this]
 constructor
 · rintro ⟨w, hw, h⟩
   rcases List.mem_append.1 hw with q | q
   · exact .inl ⟨w, q, h⟩
   · rw [List.mem_singleton] at q; subst q; exact .inr h
 · rintro (⟨w, hw, h⟩ | h)
   · exact ⟨w, List.mem_append.2 (.inl hw), h⟩
   · exact ⟨_, List.mem_append.2 (.inr (List.mem_singleton.2 rfl)), h⟩
def srtW (S : List Win) : Prop := S.Pairwise fun a b => a.1 ≤ b.1
theorem drop_le {S : List Win} (hs : srtW S) {n : Nat} (hn : n < S.length) : ∀ x ∈ S.drop (n + 1), (S.getD n vw0).1 ≤ x.1 := by
 intro x hx
 have : S.getD n vw0 = S[n] := by simp [List.getD_eq_getElem?_getD, hn]
 rw [this]
 unfold srtW at hs
 have h2 : S.drop n = S[n] :: S.drop (n + 1) := List.drop_eq_getElem_cons hn
 have h3 := hs.sublist (List.drop_sublist n S)
 rw [h2, List.pairwise_cons] at h3
 exact h3.1 x hx
theorem drop_sub {S : List Win} {n : Nat} {x : Win} (h : x ∈ S.drop (n + 1)) : x ∈ S.drop n := by
 rw [← List.drop_drop] at h
 exact List.mem_of_mem_drop h
theorem Mrg.app {S out : List Win} {n : Nat} (h : Mrg S n out) (hs : srtW S) (hn : n < S.length) (hw : (S.getD n vw0).1 < (S.getD n vw0).2) (hb : ∀ w ∈ S, 0 ≤ w.1 ∧ w.2 ≤ 5761440)
 (hl : ∀ w ∈ out, w.2 < (S.getD n vw0).1) : Mrg S (n + 1) (out ++ [S.getD n vw0]) := by
 refine ⟨fun t => ?_, ?_, fun w hw' => ?_, fun w hw' x hx => ?_, by rw [List.length_append]; have := h.len; simp; omega, fun w hw' => ?_⟩
 · rw [take_mem hn, ← h.hit t]
   constructor
   · rintro ⟨w, hw, q⟩
     rcases List.mem_append.1 hw with r | r
     · exact .inl ⟨w, r, q⟩
     · rw [List.mem_singleton] at r; subst r; exact .inr q
   · rintro (⟨w, hw, q⟩ | q)
     · exact ⟨w, List.mem_append.2 (.inl hw), q⟩
     · exact ⟨_, List.mem_append.2 (.inr (List.mem_singleton.2 rfl)), q⟩
 · rw [List.pairwise_append]
   refine ⟨h.pw, List.pairwise_singleton _ _, fun a ha b hb => ?_⟩
   rw [List.mem_singleton] at hb; subst hb
   exact hl a ha
 · rcases List.mem_append.1 hw' with r | r
   · exact h.ok w r
   · rw [List.mem_singleton] at r; subst r; exact hw
 · rcases List.mem_append.1 hw' with r | r
   · exact h.le w r x (drop_sub hx)
   · rw [List.mem_singleton] at r; subst r; exact drop_le hs hn x hx
 · rcases List.mem_append.1 hw' with r | r
   · exact h.bd w r
   · rw [List.mem_singleton] at r; subst r; exact hb _ (getD_mem hn)
theorem Mrg.join {S o' : List Win} {z : Win} {n : Nat} (h : Mrg S n (o' ++ [z])) (hs : srtW S) (hn : n < S.length) (hw : (S.getD n vw0).1 < (S.getD n vw0).2) (hb : ∀ w ∈ S, 0 ≤ w.1 ∧ w.2 ≤ 5761440)
 (hl : (S.getD n vw0).1 ≤ z.2) : Mrg S (n + 1) (o' ++ [⟨z.1, max z.2 (S.getD n vw0).2⟩]) := by
 have hz := h.le z (by simp) (S.getD n vw0) (by rw [List.drop_eq_getElem_cons hn, show S.getD n vw0 = S[n] by simp [List.getD_eq_getElem?_getD, hn]]; exact List.mem_cons_self)
 have hzk := h.ok z (by simp)
 have hzb := h.bd z (by simp)
 have hsb := hb (S.getD n vw0) (getD_mem hn)
 have hpw := h.pw
 rw [List.pairwise_append] at hpw
 generalize hx : S.getD n vw0 = x at hz hw hl hsb
 refine ⟨fun t => ?_, ?_, fun w hw' => ?_, fun w hw' y hy => ?_, by have := h.len; simp at this ⊢; omega, fun w hw' => ?_⟩
 · rw [take_mem hn, ← h.hit t, hx]
   constructor
   · rintro ⟨w, hw, q⟩
     rcases List.mem_append.1 hw with r | r
     · exact .inl ⟨w, List.mem_append.2 (.inl r), q⟩
     · rw [List.mem_singleton] at r; subst r
       unfold hitT at q
       simp only [Bool.and_eq_true, decide_eq_true_eq] at q
       by_cases c : t < z.2
       · exact .inl ⟨z, by simp, by unfold hitT; simp only [Bool.and_eq_true, decide_eq_true_eq]; omega⟩
       · exact .inr (by unfold hitT; simp only [Bool.and_eq_true, decide_eq_true_eq]; omega)
   · have hnew : ∀ w, w = z ∨ w = x → hitT t w = true → hitT t ⟨z.1, max z.2 x.2⟩ = true := by
      intro w hw q
      unfold hitT at q ⊢
      simp only [Bool.and_eq_true, decide_eq_true_eq] at q ⊢
      rcases hw with rfl | rfl <;> omega
     rintro (⟨w, hw, q⟩ | q)
     · rcases List.mem_append.1 hw with r | r
       · exact ⟨w, List.mem_append.2 (.inl r), q⟩
       · rw [List.mem_singleton] at r
         exact ⟨_, List.mem_append.2 (.inr (List.mem_singleton.2 rfl)), hnew w (.inl r) q⟩
     · exact ⟨_, List.mem_append.2 (.inr (List.mem_singleton.2 rfl)), hnew x (.inr rfl) q⟩
 · rw [List.pairwise_append]
   refine ⟨hpw.1, List.pairwise_singleton _ _, fun a ha b hb => ?_⟩
   rw [List.mem_singleton] at hb; subst hb
   exact hpw.2.2 a ha z (by simp)
 · rcases List.mem_append.1 hw' with r | r
   · exact h.ok w (by simp [r])
   · rw [List.mem_singleton] at r; subst r; show z.1 < max z.2 x.2; omega
 · rcases List.mem_append.1 hw' with r | r
   · exact h.le w (by simp [r]) y (drop_sub hy)
   · rw [List.mem_singleton] at r; subst r; exact h.le z (by simp) y (drop_sub hy)
 · rcases List.mem_append.1 hw' with r | r
   · exact h.bd w (by simp [r])
   · rw [List.mem_singleton] at r; subst r
     show 0 ≤ z.1 ∧ max z.2 x.2 ≤ 5761440
     omega
def cntW (t : Int) (W : List Win) : Nat := W.countP (hitT t)
theorem cntW_one {W : List Win} (hp : W.Pairwise fun a b => a.2 < b.1) (hk : ∀ w ∈ W, w.1 < w.2) (t : Int) : cntW t W = if ∃ w ∈ W, hitT t w = true then 1 else 0 := by
 unfold cntW
 induction W with
 | nil => simp
 | cons x W ih =>
   rw [List.pairwise_cons] at hp
   have ih := ih hp.2 (fun w hw => hk w (by simp [hw]))
   rw [List.countP_cons]
   cases hx : hitT t x with
   | true =>
     have h0 : ¬ ∃ w, w ∈ W ∧ hitT t w = true := by
      rintro ⟨w, hw, q⟩
      have h1 := hp.1 w hw
      have h2 := hk w (by simp [hw])
      unfold hitT at hx q
      simp only [Bool.and_eq_true, decide_eq_true_eq] at hx q
      omega
     rw [ih, if_neg h0, if_pos (⟨x, List.mem_cons_self, hx⟩ : ∃ w, w ∈ x :: W ∧ hitT t w = true)]
     rfl
   | false =>
     have h0 : (∃ w, w ∈ x :: W ∧ hitT t w = true) ↔ ∃ w, w ∈ W ∧ hitT t w = true := by
      constructor
      · rintro ⟨w, hw, q⟩
        rcases List.mem_cons.1 hw with e | e
        · rw [e, hx] at q; cases q
        · exact ⟨w, e, q⟩
      · rintro ⟨w, hw, q⟩
        exact ⟨w, List.mem_cons_of_mem _ hw, q⟩
     rw [ih]
     simp only [h0]
     rfl
theorem cntW_take {W : List Win} {j : Nat} (hj : j < W.length) (t : Int) : cntW t (W.take (j + 1)) = cntW t (W.take j) + if hitT t (W.getD j vw0) = true then 1 else 0 := by
 have : W.getD j vw0 = W[j] := by simp [List.getD_eq_getElem?_getD, hj]
 unfold cntW
 rw [List.take_succ_eq_append_getElem hj, List.countP_append, this, List.countP_cons, List.countP_nil]
 simp
theorem sum_set : ∀ (M : List Int) (a j : Nat) (v : Int), a < M.length → ((M.set a v).take j).sum = (M.take j).sum + if a < j then v - M.getD a 0 else 0
 | [], a, j, v, h => by simp at h
 | x :: M, 0, j, v, _ => by
   cases j with
   | zero => simp
   | succ j => simp; omega
 | x :: M, a + 1, j, v, h => by
   cases j with
   | zero => simp
   | succ j =>
     have := sum_set M a j v (by simpa using h)
     simp at this ⊢
     omega
theorem sum_snoc {M : List Int} {j : Nat} (hj : j < M.length) : (M.take (j + 1)).sum = (M.take j).sum + M.getD j 0 := by
 rw [List.take_succ_eq_append_getElem hj, List.sum_append, show M.getD j 0 = M[j] by simp [List.getD_eq_getElem?_getD, hj]]
 simp
def bestIn (fit : Int → Int) (lo hi b : Int) : Prop := (lo ≤ b ∧ b ≤ hi) ∧ ∀ c, lo ≤ c → c ≤ hi → fit c < fit b ∨ fit c = fit b ∧ (max b (-b) < max c (-c) ∨ max b (-b) = max c (-c) ∧ b ≤ c)
theorem best_uniq {fit : Int → Int} {lo hi b d : Int} (h : bestIn fit lo hi b) (k : bestIn fit lo hi d) : b = d := by
 have h1 := h.2 d k.1.1 k.1.2
 have h2 := k.2 b h.1.1 h.1.2
 omega
theorem best_one (fit : Int → Int) (a : Int) : bestIn fit a a a := ⟨⟨by omega, by omega⟩, fun c h1 h2 => by
 have : c = a := by omega
 subst this; exact .inr ⟨rfl, .inr ⟨rfl, Int.le_refl _⟩⟩⟩
theorem best_dn {fit : Int → Int} {k b : Int} (h : bestIn fit (-k) k b) : bestIn fit (-(k + 1)) k (if fit b < fit (-(k + 1)) then -(k + 1) else b) := by
 have h1 := h.1
 split
 · rename_i q
   refine ⟨by omega, fun c c1 c2 => ?_⟩
   by_cases hc : c = -(k + 1)
   · subst hc; exact .inr ⟨rfl, .inr ⟨rfl, Int.le_refl _⟩⟩
   · have := h.2 c (by omega) c2
     left; omega
 · rename_i q
   refine ⟨by omega, fun c c1 c2 => ?_⟩
   by_cases hc : c = -(k + 1)
   · subst hc; omega
   · exact h.2 c (by omega) c2
theorem best_up {fit : Int → Int} {k b : Int} (h : bestIn fit (-(k + 1)) k b) : bestIn fit (-(k + 1)) (k + 1) (if fit b < fit (k + 1) then k + 1 else b) := by
 have h1 := h.1
 split
 · rename_i q
   refine ⟨by omega, fun c c1 c2 => ?_⟩
   by_cases hc : c = k + 1
   · subst hc; exact .inr ⟨rfl, .inr ⟨rfl, Int.le_refl _⟩⟩
   · have := h.2 c c1 (by omega)
     left; omega
 · rename_i q
   refine ⟨by omega, fun c c1 c2 => ?_⟩
   by_cases hc : c = k + 1
   · subst hc; omega
   · exact h.2 c c1 (by omega)
theorem best_scan {fit : Int → Int} {lo c b : Int} (h : bestIn fit lo (c - 1) b) (d : Int) (hd : d = if fit b < fit c ∨ (fit c = fit b ∧ max c (-c) < max b (-b)) then c else b) : bestIn fit lo c d := by
 have h1 := h.1
 subst hd
 split
 · rename_i q
   refine ⟨by omega, fun e c1 c2 => ?_⟩
   by_cases hc : e = c
   · subst hc; exact .inr ⟨rfl, .inr ⟨rfl, Int.le_refl _⟩⟩
   · have := h.2 e c1 (by omega)
     omega
 · rename_i q
   refine ⟨by omega, fun e c1 c2 => ?_⟩
   by_cases hc : e = c
   · subst hc; omega
   · exact h.2 e c1 (by omega)
structure IsM (o : List Hld) (h : List Hir) (W : List Win) : Prop where
 hit : ∀ t, (∃ w ∈ W, hitT t w = true) ↔ ∃ w ∈ allW o h, hitT t w = true
 pw : W.Pairwise fun a b => a.2 < b.1
 ok : ∀ w ∈ W, w.1 < w.2
 bd : ∀ w ∈ W, 0 ≤ w.1 ∧ w.2 ≤ 5761440
 len : W.length ≤ 2^31
end Go.Proofs.YtcjfniddeibbhaaGreatDoor
namespace Go.Eng
open Go Go.Proofs Go.Sort Go.RowKit
def pF : Int × Int → List DV := fun p => [.int .i64 p.1, .int .i64 p.2]
def encW : Int × Int → List Value := fun p => [.int .i64 p.1, .int .i64 p.2]
theorem flat_eq {l : List (Int × Int)} {xs : List Value} (hlen : xs.length = l.length * 2) (h : ∀ i, i < l.length → xs[i * 2]? = some (.int .i64 (l.getD i (0, 0)).1) ∧ xs[i * 2 + 1]? = some (.int .i64 (l.getD i (0, 0)).2)) :
 xs = (flatK encW 2 l.toArray).toList := by
 apply List.ext_getElem
 · rw [show (flatK encW 2 l.toArray).toList.length = l.length * 2 by simp, hlen]
 intro t ht ht'
 have hi : t / 2 < l.length := by omega
 obtain ⟨a, b⟩ := h (t / 2) hi
 have hg := get_flatK encW 2 l.toArray t (by simp; omega)
 rw [getElem!_pos _ t (by rw [size_flatK]; simp; omega)] at hg
 rw [show (flatK encW 2 l.toArray).toList[t] = _ from (Array.getElem_toList _).trans hg]
 have hd : l.toArray[t / 2]! = l.getD (t / 2) (0, 0) := by simp [hi, List.getD_eq_getElem?_getD]
 rw [hd]
 rcases Nat.mod_two_eq_zero_or_one t with q | q
 · rw [q]
   rw [show t / 2 * 2 = t by omega, List.getElem?_eq_getElem ht] at a
   injection a
 · rw [q]
   rw [show t / 2 * 2 + 1 = t by omega, List.getElem?_eq_getElem ht] at b
   injection b
theorem flat_at {l : List (Int × Int)} {i : Nat} (hi : i < l.length) : (flatK encW 2 l.toArray).toList[i * 2]? = some (.int .i64 (l.getD i (0, 0)).1) ∧ (flatK encW 2 l.toArray).toList[i * 2 + 1]? = some (.int .i64 (l.getD i (0, 0)).2) := by
 have hd : l.toArray[i]! = l.getD i (0, 0) := by simp [hi, List.getD_eq_getElem?_getD]
 have key : ∀ t, t < l.length * 2 → (flatK encW 2 l.toArray).toList[t]? = some ((encW l.toArray[t / 2]!)[t % 2]!) := by
  intro t ht
  have hg := get_flatK encW 2 l.toArray t (by simpa using ht)
  rw [getElem!_pos _ t (by rw [size_flatK]; simpa using ht)] at hg
  rw [Array.getElem?_toList, Array.getElem?_eq_getElem (by rw [size_flatK]; simpa using ht), hg]
 constructor
 · rw [key _ (by omega), show i * 2 / 2 = i by omega, show i * 2 % 2 = 0 by omega, hd]; rfl
 · rw [key _ (by omega), show (i * 2 + 1) / 2 = i by omega, show (i * 2 + 1) % 2 = 1 by omega, hd]; rfl
theorem holds_flat {w : World} {g : Nat} {cur : Array Value} {e : TypeId} {D : Array Value} (hb : w.heap[g]? = some (.cells cur e (0, 0))) (ht : cur.toList.take D.size = D.toList) : Holds id w g 0 D := by
 intro j hj
 refine ⟨?_, by simp [World.frozen?, hb]⟩
 have h1 : (cur.toList.take D.size)[j]? = D.toList[j]? := by rw [ht]
 rw [List.getElem?_take_of_lt hj] at h1
 simp only [World.cell?, hb, Nat.zero_add]
 simp only [Option.isSome_none, Bool.false_eq_true, if_false]
 rw [← Array.getElem?_toList, h1]
 simp [hj]
theorem heap_flat {w : World} {g n : Nat} {os : Array Obj} {cur : Array Value} {e : TypeId} {fr : Nat × Nat} (d : Array Value) (hb : w.heap[g]? = some (.cells cur e fr)) :
 (grow (putRow id (Sort.ahead w n) g 0 d) os).heap[g]? = some (.cells (putCells id 0 d cur) e fr) := by
 have hg : g < w.heap.size := (Array.getElem?_eq_some_iff.1 hb).1
 rw [heap_grow_old _ _ (by simpa using hg)]
 simp [putRow, mapBlock, Sort.ahead, Array.getElem?_modify, hb, onCells]
theorem grown_flat {w : World} {g n : Nat} {os : Array Obj} (d : Array Value) : w.grownBy (grow (putRow id (Sort.ahead w n) g 0 d) os) (some g) := by
 refine ⟨rfl, rfl, rfl, by simp, fun k hk hne => ?_⟩
 rw [heap_grow_old _ _ (by simpa using hk)]
 have : g ≠ k := fun e => hne (by rw [e])
 simp [putRow, mapBlock, Sort.ahead, Array.getElem?_modify, this]
theorem take_flat (cur D : Array Value) (h : D.size ≤ cur.size) : (putCells id 0 D cur).toList.take D.size = D.toList := by
 apply List.ext_getElem?
 intro j
 by_cases hj : j < D.size
 · rw [List.getElem?_take_of_lt hj, Array.getElem?_toList]
   simp [putCells, hj, show j < cur.size by omega]
 · rw [List.getElem?_take_eq_none (by omega), List.getElem?_eq_none (by simp; omega)]
theorem FSpec.sortW {P : Program} {f g : FuncId} {e : TypeId} {lt : Int × Int → Int × Int → Bool} (henter : ∀ args w, (callFunc f args).run P w = .ok (.enter f args) w) (l : List (Int × Int)) (h1 : 0 < l.length)
 (hc : ∀ (blk cap : Nat) (w : World), HoldsK encW 2 w blk 0 l.toArray → blk < w.heap.size → Calls P f #[.slice (some ⟨blk, 0, none⟩) l.length cap, .func (.func g) #[] #[]] w fun e' w' => e' = .returned (.tuple #[]) ∧ ∃ d' n os, PermIn 0 l.length l.toArray d' ∧ SortedIn lt 0 l.length d' ∧ w' = sortWorldK encW 2 w blk 0 n d' os) :
 FSpec P f [.buf 1000001, .fn g []] [(1000001, seqB e 2 pF (0, 0) l)] (fun y r => y = .tup [] ∧ ∃ m : List (Int × Int), m.Perm l ∧ m.Pairwise (fun a b => lt b a = false) ∧ r = [(1000001, seqB e 2 pF (0, 0) m)]) := by
 refine ⟨henter, fun G β w vs hpre hvl hvd => ?_⟩
 match vs, hvl with
 | [v, v2], _ =>
   have hv := hvd 0 _ _ rfl rfl
   have hv2 := hvd 1 _ _ rfl rfl
   cases hv2 with | fn _ _ cs hcl _ =>
   have hcs : cs = [] := List.length_eq_zero_iff.1 hcl
   subst hcs
   cases hv with | buf _ _ hb _ =>
   have hR : lookL [(1000001, seqB e 2 pF (0, 0) l)] 1000001 = some (seqB e 2 pF (0, 0) l) := by simp [lookL]
   have hrow : ∀ {q : List (Int × Int)} d r, lookL [(1000001, seqB e 2 pF (0, 0) q)] d = some r → d = 1000001 ∧ r = seqB e 2 pF (0, 0) q := by
    intro q d r hr
    simp only [lookL] at hr
    cases hq : Nat.beq d 1000001 with
    | false => rw [show (d.beq 1000001) = false from hq] at hr; cases hr
    | true => rw [show (d.beq 1000001) = true from hq] at hr; cases hr; exact ⟨Nat.eq_of_beq_eq_true hq, rfl⟩
   obtain ⟨v', xs, hv', hown, _, _, hden⟩ := hpre.rs _ _ hR
   rw [hb] at hv'; cases hv'
   rcases hown.2 with ⟨_, hz⟩ | ⟨gg, cap, cur, rfl, hg, hh, hnc, hcm, hcz, htake⟩
   · omega
   have hxs : xs = (flatK encW 2 l.toArray).toList := by
    refine flat_eq hown.1 fun i hi => ⟨?_, ?_⟩
    · obtain ⟨u, hu, hd⟩ := hden i 0 (.int .i64 (l.getD i (0, 0)).1) hi rfl
      rw [Nat.add_zero] at hu
      rw [hu]; cases hd; rfl
    · obtain ⟨u, hu, hd⟩ := hden i 1 (.int .i64 (l.getD i (0, 0)).2) hi rfl
      rw [hu]; cases hd; rfl
   have hgs : gg < w.heap.size := (Array.getElem?_eq_some_iff.1 hh).1
   have hho : HoldsK encW 2 w gg 0 l.toArray := holds_flat hh (by rw [← hxs, size_flatK, List.size_toArray]; exact htake)
   refine (hc gg cap w hho hgs).mono ?_
   rintro e' w' ⟨rfl, d', n, os, hperm, hsort, rfl⟩
   have hsz : d'.size = l.length := hperm.1.trans (by simp)
   have hm : d'.toList.toArray = d' := by simp
   have hml : d'.toList.length = l.length := by rw [Array.length_toList, hsz]
   have hgb := grown_flat (w := w) (g := gg) (n := n) (os := os) (flatK encW 2 d')
   have hDs : (flatK encW 2 d').size = l.length * 2 := by rw [size_flatK, hsz]
   have hrs : (sortWorldK encW 2 w gg 0 n d' os).ownsRow 0 e 2 (.slice (some ⟨gg, 0, none⟩) l.length cap) l.length (flatK encW 2 d').toList :=
    ⟨by rw [Array.length_toList, hDs], .inr ⟨gg, cap, _, rfl, Nat.zero_le _, heap_flat _ hh, hnc, hcm, by simp [putCells, hcz], by rw [← hDs]; exact take_flat _ _ (by rw [hDs, hcz]; omega)⟩⟩
   have hTin : Tin w β (lookL [(1000001, seqB e 2 pF (0, 0) l)]) gg := ⟨1000001, _, _, hR, rfl, hb, .of rfl⟩
   have hGg : G gg = none := hpre.og _ _ _ gg hR rfl hb (.of rfl)
   have hpl : d'.toList.Perm l := by
    have := hperm.2.2
    rw [← hsz, Array.extract_size] at this
    have e2 : l.toArray.extract 0 d'.size = l.toArray := by rw [hsz]; simp
    rw [e2] at this
    exact this
   have hpw : d'.toList.Pairwise (fun a b => lt b a = false) := by
    rw [List.pairwise_iff_getElem]
    intro i j hi hj hij
    have := hsort i j (Nat.zero_le _) hij (by rw [Array.length_toList, hsz] at hj; exact hj)
    rw [getElem!_pos _ j (by simpa using hj), getElem!_pos _ i (by simpa using hi)] at this
    simpa using this
   refine ⟨.tuple #[], .tup [], [(1000001, seqB e 2 pF (0, 0) d'.toList)], G, β, rfl, ⟨rfl, d'.toList, hpl, hpw, rfl⟩, ⟨Hp.le_refl G, Env.le_refl β, fun b o ho => ?_, fun b o ho => .inl ho, ⟨hgb.os, hgb.tape, hgb.output, hgb.size, fun b hlt hT => ?_⟩, fun d r hr => ?_, fun d d2 r r' _ _ _ e1 e2 _ _ _ _ _ _ => ?_, fun d r u b e1 _ hu hbk => ?_⟩, .tup [] [] rfl (fun i x v hx => by simp at hx)⟩
   · have hw := hpre.gw b o ho
     rw [show (sortWorldK encW 2 w gg 0 n d' os).heap[b]? = w.heap[b]? from hgb.block b (Array.getElem?_eq_some_iff.1 hw).1 (fun q => by cases q; rw [hGg] at ho; cases ho)]; exact hw
   · exact hgb.block b hlt (fun q => by cases q; exact hT hTin)
   · obtain ⟨rfl, rfl⟩ := hrow d r hr
     refine ⟨_, _, hb, by rw [hml]; exact hrs, by omega, fun i hi => rfl, fun i j x hi hx => ?_⟩
     rw [hml] at hi
     have hat := flat_at (l := d'.toList) (i := i) (by rw [hml]; exact hi)
     rw [hm] at hat
     match j, hx with
     | 0, hx => cases hx; exact ⟨_, hat.1, .int _ _⟩
     | 1, hx => cases hx; exact ⟨_, hat.2, .int _ _⟩
     | j + 2, hx => simp [rowF, pF] at hx
   · rw [(hrow d r e1).1, (hrow d2 r' e2).1]
   · obtain ⟨rfl, rfl⟩ := hrow d r e1
     rw [hb] at hu; cases hu
     cases hbk.plain rfl
     exact ⟨hGg, .inl hTin⟩
theorem FSpec.sortW0 {P : Program} {f g : FuncId} {e : TypeId} (henter : ∀ args w, (callFunc f args).run P w = .ok (.enter f args) w)
 (hc : ∀ (p : Option Addr) (cap : Nat) (w : World), Calls P f #[.slice p 0 cap, .func (.func g) #[] #[]] w fun e' w' => e' = .returned (.tuple #[]) ∧ w' = w) :
 FSpec P f [.buf 1000001, .fn g []] [(1000001, seqB e 2 pF (0, 0) [])] (fun y r => y = .tup [] ∧ r = [(1000001, seqB e 2 pF (0, 0) [])]) := by
 refine ⟨henter, fun G β w vs hpre hvl hvd => ?_⟩
 match vs, hvl with
 | [v, v2], _ =>
   have hv := hvd 0 _ _ rfl rfl
   have hv2 := hvd 1 _ _ rfl rfl
   cases hv2 with | fn _ _ cs hcl _ =>
   have hcs : cs = [] := List.length_eq_zero_iff.1 hcl
   subst hcs
   cases hv with | buf _ _ hb _ =>
   have hR : lookL [(1000001, seqB e 2 pF (0, 0) [])] 1000001 = some (seqB e 2 pF (0, 0) []) := by simp [lookL]
   have hrow : ∀ d r, lookL [(1000001, seqB e 2 pF (0, 0) [])] d = some r → d = 1000001 ∧ r = seqB e 2 pF (0, 0) [] := by
    intro d r hr
    simp only [lookL] at hr
    cases hq : Nat.beq d 1000001 with
    | false => rw [show (d.beq 1000001) = false from hq] at hr; cases hr
    | true => rw [show (d.beq 1000001) = true from hq] at hr; cases hr; exact ⟨Nat.eq_of_beq_eq_true hq, rfl⟩
   obtain ⟨v', xs, hv', hown, hk0, hj0, hden⟩ := hpre.rs _ _ hR
   rw [hb] at hv'; cases hv'
   have hrun : Calls P f #[v, .func (.func g) #[] #[]] w fun e' w' => e' = .returned (.tuple #[]) ∧ w' = w := by
    rcases hown.2 with ⟨rfl, _⟩ | ⟨gg, cap, cur, rfl, _⟩
    · exact hc none 0 w
    · exact hc _ cap w
   refine hrun.mono ?_
   rintro e' w' ⟨rfl, rfl⟩
   refine ⟨.tuple #[], .tup [], [(1000001, seqB e 2 pF (0, 0) [])], G, β, rfl, ⟨rfl, rfl⟩, ⟨Hp.le_refl G, Env.le_refl β, fun b o ho => hpre.gw b o ho, fun b o ho => .inl ho, ⟨rfl, rfl, rfl, Nat.le_refl _, fun b hlt hT => rfl⟩, fun d r hr => hpre.rs d r hr, fun d d2 r r' _ _ _ e1 e2 _ _ _ _ _ _ => ?_, fun d r u b e1 _ hu hbk => ?_⟩, .tup [] [] rfl (fun i x v hx => by simp at hx)⟩
   · rw [(hrow d r e1).1, (hrow d2 r' e2).1]
   · obtain ⟨rfl, rfl⟩ := hrow d r e1
     exact ⟨hpre.og _ _ _ b hR rfl hu hbk, .inl ⟨1000001, _, _, hR, rfl, hu, hbk⟩⟩
end Go.Eng
namespace Go.Proofs
open Go.Shelf
def Tryz.laysW_ren : Go.Shelf.Ren := ⟨fun | 6 => 182 | 15 => 169 | 14 => 248 | 28 => 228 | 29 => 229 | 20 => 288 | 21 => 289 | 22 => 290 | 23 => 291 | 24 => 292 | 25 => 293 | 26 => 294 | 27 => 295 | 46 => 309 | 47 => 278 | 48 => 279 | 49 => 310 | 50 => 311 | 57 => 319 | n => n, fun | 22 => 153 | 24 => 65 | 25 => 250 | 3 => 3 | 39 => 242 | 0 => 0 | 53 => 305 | 55 => 307 | 4 => 4 | 46 => 298 | 45 => 297 | 50 => 254 | 5 => 5 | 9 => 9 | 66 => 349 | 70 => 353 | 76 => 370 | 77 => 92 | n => n, fun | n => n⟩
theorem Tryz.laysW : Go.Proofs.SlLaysF0.n6 Tryz.prog Tryz.laysW_ren := {
 mixed := by kernel_rfl
 f6 := ⟨Tryz.f182.name, by decide, Tryz.func182.trans (congrArg some (by kernel_rfl))⟩
 f14 := ⟨Tryz.f248.name, by decide, Tryz.func248.trans (congrArg some (by kernel_rfl))⟩
 f15 := Tryz.func169.trans (congrArg some (by kernel_rfl))
 f20 := ⟨Tryz.f288.name, by decide, Tryz.func288.trans (congrArg some (by kernel_rfl))⟩
 f21 := ⟨Tryz.f289.name, by decide, Tryz.func289.trans (congrArg some (by kernel_rfl))⟩
 f22 := ⟨Tryz.f290.name, by decide, Tryz.func290.trans (congrArg some (by kernel_rfl))⟩
 f23 := ⟨Tryz.f291.name, by decide, Tryz.func291.trans (congrArg some (by kernel_rfl))⟩
 f24 := ⟨Tryz.f292.name, by decide, Tryz.func292.trans (congrArg some (by kernel_rfl))⟩
 f25 := ⟨Tryz.f293.name, by decide, Tryz.func293.trans (congrArg some (by kernel_rfl))⟩
 f26 := ⟨Tryz.f294.name, by decide, Tryz.func294.trans (congrArg some (by kernel_rfl))⟩
 f27 := ⟨Tryz.f295.name, by decide, Tryz.func295.trans (congrArg some (by kernel_rfl))⟩
 f28 := Tryz.func228.trans (congrArg some (by kernel_rfl))
 f29 := Tryz.func229.trans (congrArg some (by kernel_rfl))
 f46 := ⟨Tryz.f309.name, by decide, Tryz.func309.trans (congrArg some (by kernel_rfl))⟩
 f47 := Tryz.func278.trans (congrArg some (by kernel_rfl))
 f48 := Tryz.func279.trans (congrArg some (by kernel_rfl))
 f49 := ⟨Tryz.f310.name, by decide, Tryz.func310.trans (congrArg some (by kernel_rfl))⟩
 f50 := ⟨Tryz.f311.name, by decide, Tryz.func311.trans (congrArg some (by kernel_rfl))⟩
 f57 := ⟨Tryz.f319.name, by decide, Tryz.func319.trans (congrArg some (by kernel_rfl))⟩
 t0 := Tryz.underlying0
 a0 := Tryz.isAgg0
 z0 := Tryz.sizeOf0
 v0 := Tryz.zeroValue0
 t3 := Tryz.underlying3
 a3 := Tryz.isAgg3
 z3 := Tryz.sizeOf3
 v3 := Tryz.zeroValue3
 t4 := Tryz.underlying4
 a4 := Tryz.isAgg4
 z4 := Tryz.sizeOf4
 v4 := Tryz.zeroValue4
 t5 := Tryz.underlying5
 a5 := Tryz.isAgg5
 z5 := Tryz.sizeOf5
 v5 := Tryz.zeroValue5
 t9 := Tryz.underlying9
 a9 := Tryz.isAgg9
 z9 := Tryz.sizeOf9
 v9 := Tryz.zeroValue9
 t22 := Tryz.underlying153
 a22 := Tryz.isAgg153
 z22 := Tryz.sizeOf153
 v22 := Tryz.zeroValue153
 t25 := Tryz.underlying250
 a25 := Tryz.isAgg250
 z25 := Tryz.sizeOf250
 v25 := Tryz.zeroValue250
 t39 := Tryz.underlying242
 a39 := Tryz.isAgg242
 z39 := Tryz.sizeOf242
 v39 := Tryz.zeroValue242
 t45 := Tryz.underlying297
 a45 := Tryz.isAgg297
 z45 := Tryz.sizeOf297
 v45 := Tryz.zeroValue297
 t46 := Tryz.underlying298
 a46 := Tryz.isAgg298
 z46 := Tryz.sizeOf298
 v46 := Tryz.zeroValue298
 t50 := Tryz.underlying254
 a50 := Tryz.isAgg254
 z50 := Tryz.sizeOf254
 v50 := Tryz.zeroValue254
 t53 := Tryz.underlying305
 a53 := Tryz.isAgg305
 z53 := Tryz.sizeOf305
 v53 := Tryz.zeroValue305
 t55 := Tryz.underlying307
 a55 := Tryz.isAgg307
 z55 := Tryz.sizeOf307
 v55 := Tryz.zeroValue307
 t66 := Tryz.underlying349
 a66 := Tryz.isAgg349
 z66 := Tryz.sizeOf349
 v66 := Tryz.zeroValue349
 t70 := Tryz.underlying353
 a70 := Tryz.isAgg353
 z70 := Tryz.sizeOf353
 v70 := Tryz.zeroValue353
 t76 := Tryz.underlying370
 a76 := Tryz.isAgg370
 z76 := Tryz.sizeOf370
 v76 := Tryz.zeroValue370
 t77 := Tryz.underlying92
 a77 := Tryz.isAgg92
 z77 := Tryz.sizeOf92
 v77 := Tryz.zeroValue92 }
def Tryz.laysC_ren : Go.Shelf.Ren := ⟨fun | 5 => 131 | 7 => 185 | n => n, fun | 22 => 3 | 3 => 3 | 4 => 4 | n => n, fun | n => n⟩
theorem Tryz.laysC : Go.Proofs.SlLaysC2.n5 Tryz.prog Tryz.laysC_ren := {
 mixed := by kernel_rfl
 f5 := ⟨Tryz.f131.name, by decide, Tryz.func131.trans (congrArg some (by kernel_rfl))⟩
 f7 := ⟨Tryz.f185.name, by decide, Tryz.func185.trans (congrArg some (by kernel_rfl))⟩
 t3 := Tryz.underlying3
 a3 := Tryz.isAgg3
 z3 := Tryz.sizeOf3
 v3 := Tryz.zeroValue3
 t4 := Tryz.underlying4
 a4 := Tryz.isAgg4
 z4 := Tryz.sizeOf4
 v4 := Tryz.zeroValue4
 t22 := Tryz.underlying3
 a22 := Tryz.isAgg3
 z22 := Tryz.sizeOf3
 v22 := Tryz.zeroValue3 }
end Go.Proofs
set_option maxRecDepth 20000
namespace Go.Proofs.YtcjfniddeibbhaaGreatDoor
open Go Go.Eng
open Go.Sort Go.RowKit Go.Lib in
theorem ltW (x y : Int × Int) : ltOf (fun x y : Int × Int => Lib.compareInt x.1 y.1) x y = decide (x.1 < y.1) := by
 unfold ltOf Lib.compareInt
 by_cases h1 : x.1 < y.1
 · simp [h1]
 · by_cases h2 : y.1 < x.1 <;> simp [h1, h2]
open Go.Sort Go.RowKit Go.Lib in
theorem swoW : SWO (ltOf fun x y : Int × Int => Lib.compareInt x.1 y.1) where
 irrefl x := by rw [ltW]; simp
 trans x y z h1 h2 := by rw [ltW] at *; simp at *; omega
 ntrans x y z h1 h2 := by rw [ltW] at *; simp at *; omega
open Go.Sort Go.RowKit Go.Lib in
theorem clW (x y : Int × Int) (W : World) : Calls Tryz.prog 183 #[.agg #[.int .i64 x.1, .int .i64 x.2], .agg #[.int .i64 y.1, .int .i64 y.2]] W fun e w' => e = .returned (.int .i64 (Lib.compareInt x.1 y.1)) ∧ ∃ q os', w' = grow (W.drewN q) os' := by
 have hcon := fun W' => AnyG.cmp_Compare_int Tryz.laysC x.1 y.1 W'
 change ∀ W', Calls Tryz.prog 131 _ _ _ at hcon
 generalize Lib.compareInt x.1 y.1 = r at hcon ⊢
 go_enter Tryz.func183, Tryz.ntmps183
 go_wp2_with (go_at_call 131; refine (hcon _).mono ?_; rintro e w' ⟨rfl, rfl⟩)
 go_ret
 exact ⟨rfl, 0, _, by rw [alloc_eq_grow, alloc_eq_grow, grow_grow]; rfl⟩
open Go.Sort Go.RowKit Go.Lib in
theorem c182 (l : List Win) (hl : l.length < 2^40) : FSpec Tryz.prog 182 [.buf 1000001, .fn 183 []] [(1000001, vwB l)] (fun y r => y = .tup [] ∧ ∃ m : List Win, m.Perm l ∧ m.Pairwise (fun a b => a.1 ≤ b.1) ∧ r = [(1000001, vwB m)]) := by
 have e : Tryz.laysW_ren.f 6 = 182 := rfl
 have et : Tryz.laysW_ren.t 24 = 65 := rfl
 cases l with
 | nil =>
   refine FSpec.mono (FSpec.sortW0 (g := 183) (e := 65) Tryz.call182 fun p cap w => ?_) fun x r h => ⟨h.1, [], List.Perm.refl _, List.Pairwise.nil, h.2⟩
   have := AnyF.slices_SortFunc_none Tryz.laysW p cap (.func (.func 183) #[] #[]) w
   rw [e] at this
   exact this
 | cons x l =>
   refine FSpec.mono (FSpec.sortW (g := 183) (e := 65) (lt := ltOf fun x y : Int × Int => Lib.compareInt x.1 y.1) Tryz.call182 (x :: l) (by simp) fun blk cap w hH hb => ?_) fun y r h => ?_
   · have := AnyQ.slices_SortFunc Tryz.laysW 2 (by rw [et]; exact Tryz.isAgg65) (by rw [et]; exact Tryz.sizeOf65) encW (fun _ => rfl) (fun x v hv => by simp [encW] at hv; rcases hv with rfl | rfl <;> rfl) (fun x y => Lib.compareInt x.1 y.1) swoW 183 #[] blk 0 cap (x :: l).toArray w Tryz.call183 (fun _ _ _ _ x y => clW x y _) hH hb (by simp at hl ⊢; omega)
     rw [e] at this
     simpa using this
   · obtain ⟨h1, m, hm, hs, hr⟩ := h
     refine ⟨h1, m, hm, hs.imp (fun {a b} q => ?_), hr⟩
     rw [ltW] at q
     simp at q
     exact q
end Go.Proofs.YtcjfniddeibbhaaGreatDoor
