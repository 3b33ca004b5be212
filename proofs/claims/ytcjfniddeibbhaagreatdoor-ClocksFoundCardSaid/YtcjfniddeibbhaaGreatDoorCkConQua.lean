/- ClocksFound is proved: for every input the law returns true, and its argument reads afterwards as it read before. Conditions: those of the given row alone. -/
import Derived.Test.YtcjfniddeibbhaaGreatDoorCkConTri
import Derived.Test.YtcjfniddeibbhaaGreatDoorCkConTwo
import Derived.Test.YtcjfniddeibbhaaGreatDoorCkConOne
set_option linter.unusedVariables false
set_option linter.unusedSimpArgs false
set_option maxRecDepth 20000
namespace Go.Proofs.YtcjfniddeibbhaaGreatDoor
open Go Go.Eng
def oTClB123_12 : List (Nat × List Nat) := [(0, []), (1, []), (2, [0, 1]), (3, [0, 1]), (4, [0, 1]), (5, []), (6, [0, 1, 2, 3, 4, 5]), (7, [0, 1, 2, 3, 4, 5]), (8, [0, 1, 2, 3, 4, 5, 6, 7]), (9, [0, 1, 2, 3, 4, 5, 6, 7]), (10, [0, 1, 2, 3, 4, 5, 6, 7]), (11, [0, 1, 2, 3, 4, 5]), (12, [8, 9, 10, 11]), (13, [8, 9, 10, 11]), (14, []), (15, [])]
def oTClB123_24 : List (Nat × List Nat) := [(0, []), (1, []), (2, []), (3, []), (4, []), (5, [3, 4]), (6, [3, 4, 5]), (7, [3, 4, 5]), (8, [3, 4]), (9, [3, 4]), (10, [3, 4]), (11, []), (12, [])]
def oTClB123_25 : List (Nat × List Nat) := [(0, []), (1, [0]), (2, [0]), (3, [0, 1, 2]), (4, [0, 1, 2, 3]), (5, [0, 1, 2, 3]), (6, [0, 1, 2]), (7, [0, 1, 2]), (8, [0, 1, 2]), (9, [0, 1, 2, 3, 4, 5, 6, 7, 8]), (10, [0, 1, 2, 3, 4, 5, 6, 7, 8]), (11, [0, 1, 2]), (12, []), (13, []), (14, [])]
def cutP (w : Hld) (g : Leg) : Win := (max g.out.tm w.frm, min (lastE g) w.til)
theorem cutG_yes {w : Hld} {g : Leg} (h : g.veh = w.veh ∧ (cutP w g).1 < (cutP w g).2) : cutG w g = [cutP w g] := if_pos h
theorem cutG_no {w : Hld} {g : Leg} (h : ¬ (g.veh = w.veh ∧ (cutP w g).1 < (cutP w g).2)) : cutG w g = [] := if_neg h
def accL (w : Hld) (ls : List Leg) (k : Nat) : List Win := (ls.take k).flatMap (cutG w)
def accH (w : Hld) (h : List Hir) (j : Nat) : List Win := (h.take j).flatMap (cutHh w)
def accO (o : List Hld) (h : List Hir) (i : Nat) : List Win := (o.take i).flatMap fun w => cutHl w h
theorem accL_succ {w : Hld} {ls : List Leg} {k : Nat} (hk : k < ls.length) : accL w ls (k + 1) = accL w ls k ++ cutG w (ls.getD k lg0) := by
 unfold accL; rw [take_snocD (d := lg0) hk, List.flatMap_append]; simp
theorem accH_succ {w : Hld} {h : List Hir} {k : Nat} (hk : k < h.length) : accH w h (k + 1) = accH w h k ++ accL w (h.getD k hi0).legs (h.getD k hi0).legs.length := by
 unfold accH accL; rw [take_snocD (d := hi0) hk, List.flatMap_append, List.take_length]; simp [cutHh]
theorem accO_succ {o : List Hld} {h : List Hir} {k : Nat} (hk : k < o.length) : accO o h (k + 1) = accO o h k ++ accH (o.getD k hld0) h h.length := by
 unfold accO accH; rw [take_snocD (d := hld0) hk, List.flatMap_append, List.take_length]; simp [cutHl]
theorem accO_all (o : List Hld) (h : List Hir) : accO o h o.length = allW o h := by unfold accO allW; rw [List.take_length]
theorem accL_len (w : Hld) (ls : List Leg) : ∀ k, (accL w ls k).length ≤ k := by
 intro k
 induction k with
 | zero => simp [accL]
 | succ k ih =>
   rcases Nat.lt_or_ge k ls.length with hk | hk
   · rw [accL_succ hk, List.length_append]
     have : (cutG w (ls.getD k lg0)).length ≤ 1 := by unfold cutG; split <;> simp
     omega
   · have : accL w ls (k + 1) = accL w ls k := by unfold accL; rw [List.take_of_length_le hk, List.take_of_length_le (by omega)]
     rw [this]; omega
theorem accH_len (w : Hld) (h : List Hir) (hg : ∀ x ∈ h, x.legs.length ≤ 1024) : ∀ k, (accH w h k).length ≤ 1024 * k := by
 intro k
 induction k with
 | zero => simp [accH]
 | succ k ih =>
   rcases Nat.lt_or_ge k h.length with hk | hk
   · rw [accH_succ hk, List.length_append]
     have := accL_len w (h.getD k hi0).legs (h.getD k hi0).legs.length
     have := hg (h.getD k hi0) (getD_mem hk)
     omega
   · have : accH w h (k + 1) = accH w h k := by unfold accH; rw [List.take_of_length_le hk, List.take_of_length_le (by omega)]
     rw [this]; omega
theorem accO_len (o : List Hld) (h : List Hir) (hh : h.length ≤ 1024) (hg : ∀ x ∈ h, x.legs.length ≤ 1024) : ∀ k, (accO o h k).length ≤ 1048576 * k := by
 intro k
 induction k with
 | zero => simp [accO]
 | succ k ih =>
   rcases Nat.lt_or_ge k o.length with hk | hk
   · rw [accO_succ hk, List.length_append]
     have := accH_len (o.getD k hld0) h hg h.length
     omega
   · have : accO o h (k + 1) = accO o h k := by unfold accO; rw [List.take_of_length_le hk, List.take_of_length_le (by omega)]
     rw [this]; omega
set_option maxHeartbeats 8000000 in
theorem c123 (H : List UInt8 → Bool) (v : List UInt8 → DV) (o : List Hld) (h : List Hir) (p : List UInt8) (hol : o.length ≤ 1024) (hh : h.length ≤ 1024) (hg : ∀ x ∈ h, x.legs.length ≤ 1024)
 (hv : (v p = .nilsl ∧ o = []) ∨ v p = seqD 3 hldF hld0 o) (hb1 : ∀ w ∈ allW o h, w.1 < w.2) (hb2 : ∀ w ∈ allW o h, 0 ≤ w.1 ∧ w.2 ≤ 5761440) :
 FSpec Tryz.prog 123 [.agg [.mp 1000001, .d (hirs h)], .d (.str p)] [(1000001, mV H v)] (fun y r => (∃ W, IsM o h W ∧ y = .d (wins W)) ∧ r = [(1000001, mV H v)]) := by
 have hv' : (v (strK [.str p]) = .nilsl ∧ o = []) ∨ v (strK [.str p]) = seqD 3 hldF hld0 o := hv
 refine spec_of hT (C := []) Tryz.func123 rfl Tryz.call123 rfl rfl rfl ?_
 conv => whnf
 refine' LoopX.shareX (P := Tryz.prog) (α := Unit) (fun _ => mkSt [(2, .ptr 2 0), (5, .d .nilsl), (20, .d (seqD 3 hldF hld0 o)), (21, .d (.int .i64 o.length)), (22, .d (.int .i64 0))] [(1000001, mV H v), (2, .cells 137 [.mp 1000001, .d (hirs h)])]) (fun _ => True) ?main ?tail
 case main =>
  intro tail
  rcases hv' with ⟨e, ho'⟩ | e
  · repeat' (first | (rw [e]; conv => whnf) | (refine br_intro ?_ ?_ <;> intro hb <;> (try simp only [brs] at hb) <;> conv => whnf) | (refine RegX.rule (id := 12) hT rfl [] oTClB123_12 (by decide +kernel) ?_; conv => whnf) | (refine RegX.rule (id := 24) hT rfl [] oTClB123_24 (by decide +kernel) ?_; conv => whnf) | (refine RegX.rule (id := 25) hT rfl [] oTClB123_25 (by decide +kernel) ?_; conv => whnf) | omega | (refine And.intro ?_ ?_; ((try dsimp only); first | omega | (refine szA rfl ?_; omega) | (refine szB rfl ?_; omega) | (unfold inI64; omega) | exact rfl | (simp only [lns] at *; omega) | decide | (unfold inI64; decide)); conv => whnf) | decide | assumption)
    refine LoopX.ent ?_ (tail () trivial)
    exact Entails.mk' [(1000001, 1000001), (2, 2)] rfl rfl ⟨lr, lr, (by rw [ho']; exact SV.le_nilS), SV.le_int (by rw [ho']; rfl), lr, trivial⟩ ⟨rr, rr, trivial⟩
  · repeat' (first | (rw [e]; conv => whnf) | (refine br_intro ?_ ?_ <;> intro hb <;> (try simp only [brs] at hb) <;> conv => whnf) | (refine RegX.rule (id := 12) hT rfl [] oTClB123_12 (by decide +kernel) ?_; conv => whnf) | (refine RegX.rule (id := 24) hT rfl [] oTClB123_24 (by decide +kernel) ?_; conv => whnf) | (refine RegX.rule (id := 25) hT rfl [] oTClB123_25 (by decide +kernel) ?_; conv => whnf) | omega | (refine And.intro ?_ ?_; ((try dsimp only); first | omega | (refine szA rfl ?_; omega) | (refine szB rfl ?_; omega) | (unfold inI64; omega) | exact rfl | (simp only [lns] at *; omega) | decide | (unfold inI64; decide)); conv => whnf) | decide | assumption)
    refine LoopX.ent ?_ (tail () trivial)
    exact Entails.mk' [(1000001, 1000001), (2, 2)] rfl rfl ⟨lr, lr, lr, lr, lr, trivial⟩ ⟨rr, rr, trivial⟩
 case tail =>
  rintro ⟨⟩ -
  refine LoopX.rule hT (C := []) (ι := Nat) (fun i => i ≤ o.length) (fun i => mkSt [(2, .ptr 2 0), (5, .buf 5), (20, .d (seqD 3 hldF hld0 o)), (21, .d (.int .i64 o.length)), (22, .d (.int .i64 i))] [(1000001, mV H v), (2, .cells 137 [.mp 1000001, .d (hirs h)]), (5, vwB (accO o h i))]) (fun i => o.length - i) 0 (by omega) ?_ ?_
  · exact (Entails.nil 5 5 65 2 (rowF vwF vw0 []) rfl rfl (by decide)).trans (Entails.mk' [(1000001, 1000001), (2, 2), (5, 5)] rfl rfl ⟨lr, lr, lr, lr, lr, trivial⟩ ⟨rr, rr, rr, trivial⟩)
  intro i p1
  have e1 : (i : Int).toNat = i := Int.toNat_natCast i
  have hOl := accO_len o h hh hg i
  rcases Nat.lt_or_ge i o.length with hi | hi
  · conv => whnf
    repeat' (first | (refine br_intro ?_ ?_ <;> intro hb <;> (try simp only [brs] at hb) <;> conv => whnf) | (refine RegX.rule (id := 12) hT rfl [] oTClB123_12 (by decide +kernel) ?_; conv => whnf) | (refine RegX.rule (id := 24) hT rfl [] oTClB123_24 (by decide +kernel) ?_; conv => whnf) | (refine RegX.rule (id := 25) hT rfl [] oTClB123_25 (by decide +kernel) ?_; conv => whnf) | omega | (refine And.intro ?_ ?_; ((try dsimp only); first | omega | (refine szA rfl ?_; omega) | (refine szB rfl ?_; omega) | (unfold inI64; omega) | exact rfl | (simp only [lns] at *; omega) | decide | (unfold inI64; decide)); conv => whnf) | decide | assumption)
    refine LoopX.rule hT (C := []) (ι := Nat) (fun j => j ≤ h.length) (fun j => mkSt [(2, .ptr 2 0), (5, .buf 5), (7, .ptr 7 0), (20, .d (seqD 3 hldF hld0 o)), (21, .d (.int .i64 o.length)), (22, .d (.int .i64 i)), (27, .d (hirs h)), (28, .d (.int .i64 h.length)), (29, .d (.int .i64 j))] [(1000001, mV H v), (2, .cells 137 [.mp 1000001, .d (hirs h)]), (7, .cells 247 ((hldF (o.getD (i : Int).toNat hld0)).map .d)), (5, vwB (accO o h i ++ accH (o.getD (i : Int).toNat hld0) h j))]) (fun j => h.length - j) 0 (by omega) ?_ ?_
    · exact Entails.mk' [(1000001, 1000001), (2, 2), (7, 7), (5, 5)] rfl rfl ⟨lr, lr, lr, lr, lr, lr, lr, lr, lr, trivial⟩ ⟨rr, rr, rr, (by show Res.le _ (vwB (accO o h i ++ [])); rw [List.append_nil]; exact rr), trivial⟩
    intro j p2
    have e2 : (j : Int).toNat = j := Int.toNat_natCast j
    have hHl := accH_len (o.getD (i : Int).toNat hld0) h hg j
    rcases Nat.lt_or_ge j h.length with hj | hj
    · have hgl := hg (h.getD (j : Int).toNat hi0) (getD_mem (by omega))
      conv => whnf
      repeat' (first | (refine br_intro ?_ ?_ <;> intro hb <;> (try simp only [brs] at hb) <;> conv => whnf) | (refine RegX.rule (id := 12) hT rfl [] oTClB123_12 (by decide +kernel) ?_; conv => whnf) | (refine RegX.rule (id := 24) hT rfl [] oTClB123_24 (by decide +kernel) ?_; conv => whnf) | (refine RegX.rule (id := 25) hT rfl [] oTClB123_25 (by decide +kernel) ?_; conv => whnf) | omega | (refine And.intro ?_ ?_; ((try dsimp only); first | omega | (refine szA rfl ?_; omega) | (refine szB rfl ?_; omega) | (unfold inI64; omega) | exact rfl | (simp only [lns] at *; omega) | decide | (unfold inI64; decide)); conv => whnf) | decide | assumption)
      refine LoopX.rule hT (C := []) (ι := Nat) (fun k => k ≤ (h.getD (j : Int).toNat hi0).legs.length) (fun k => mkSt [(2, .ptr 2 0), (5, .buf 5), (7, .ptr 7 0), (20, .d (seqD 3 hldF hld0 o)), (21, .d (.int .i64 o.length)), (22, .d (.int .i64 i)), (27, .d (hirs h)), (28, .d (.int .i64 h.length)), (29, .d (.int .i64 j)), (34, .d (Go.Proofs.YtcjfniddeibbhaaGreatDoor.legs (h.getD (j : Int).toNat hi0).legs)), (35, .d (.int .i64 (h.getD (j : Int).toNat hi0).legs.length)), (36, .d (.int .i64 k))] [(1000001, mV H v), (2, .cells 137 [.mp 1000001, .d (hirs h)]), (7, .cells 247 ((hldF (o.getD (i : Int).toNat hld0)).map .d)), (5, vwB (accO o h i ++ accH (o.getD (i : Int).toNat hld0) h j ++ accL (o.getD (i : Int).toNat hld0) (h.getD (j : Int).toNat hi0).legs k))]) (fun k => (h.getD (j : Int).toNat hi0).legs.length - k) 0 (by omega) ?_ ?_
      · exact Entails.mk' [(1000001, 1000001), (2, 2), (7, 7), (5, 5)] rfl rfl ⟨lr, lr, lr, lr, lr, lr, lr, lr, lr, lr, lr, lr, trivial⟩ ⟨rr, rr, rr, (by show Res.le _ (vwB (_ ++ [])); rw [List.append_nil]; exact rr), trivial⟩
      intro k p3
      have e3 : (k : Int).toNat = k := Int.toNat_natCast k
      have hLl := accL_len (o.getD (i : Int).toNat hld0) (h.getD (j : Int).toNat hi0).legs k
      rcases Nat.lt_or_ge k (h.getD (j : Int).toNat hi0).legs.length with hk | hk
      · have hk2 := hk
        rw [e2] at hk2
        have hsz : (accO o h i ++ accH (o.getD (i : Int).toNat hld0) h j ++ accL (o.getD (i : Int).toNat hld0) (h.getD (j : Int).toNat hi0).legs k).length ≤ 2^32 := by rw [List.length_append, List.length_append]; omega
        conv => whnf
        repeat' (first | (refine CallX.exact (z181 ((h.getD (j : Int).toNat hi0).legs.getD (k : Int).toNat lg0)) rfl rfl ?_; rotate_right; conv => whnf) | (refine br_intro ?_ ?_ <;> intro hb <;> (try simp only [brs] at hb) <;> conv => whnf) | (refine RegX.rule (id := 12) hT rfl [] oTClB123_12 (by decide +kernel) ?_; conv => whnf) | (refine RegX.rule (id := 24) hT rfl [] oTClB123_24 (by decide +kernel) ?_; conv => whnf) | (refine RegX.rule (id := 25) hT rfl [] oTClB123_25 (by decide +kernel) ?_; conv => whnf) | omega | (refine And.intro ?_ ?_; ((try dsimp only); first | omega | (refine szA rfl ?_; omega) | (refine szB rfl ?_; omega) | (unfold inI64; omega) | exact rfl | (simp only [lns] at *; omega) | decide | (unfold inI64; decide)); conv => whnf) | decide | assumption)
        all_goals try (exfalso; omega)
        all_goals first
         | (have hs : accL (o.getD (i : Int).toNat hld0) (h.getD (j : Int).toNat hi0).legs (k + 1) = accL (o.getD (i : Int).toNat hld0) (h.getD (j : Int).toNat hi0).legs k ++ [cutP (o.getD (i : Int).toNat hld0) ((h.getD (j : Int).toNat hi0).legs.getD (k : Int).toNat lg0)] := by
             rw [accL_succ hk, e3, cutG_yes (by unfold cutP; simp only [e1, e2, e3, cond_true, cond_false] at *; grind)]
            refine ⟨k + 1, by omega, by omega, Entails.mk' [(1000001, 1000001), (2, 2), (7, 7), (5, 71)] rfl rfl ⟨lr, lr, lr, lr, lr, lr, lr, lr, lr, lr, lr, lr, trivial⟩ ⟨rr, rr, rr, ?_, trivial⟩⟩
            rw [hs, ← List.append_assoc]
            exact Res.le_snocF (by rfl))
         | (have hs : accL (o.getD (i : Int).toNat hld0) (h.getD (j : Int).toNat hi0).legs (k + 1) = accL (o.getD (i : Int).toNat hld0) (h.getD (j : Int).toNat hi0).legs k := by
             rw [accL_succ hk, cutG_no (by unfold cutP; simp only [e1, e2, e3, cond_true, cond_false] at *; grind), List.append_nil]
            refine ⟨k + 1, by omega, by omega, ?_⟩
            rw [hs]
            exact Entails.mk' [(1000001, 1000001), (2, 2), (7, 7), (5, 5)] rfl rfl ⟨lr, lr, lr, lr, lr, lr, lr, lr, lr, lr, lr, lr, trivial⟩ ⟨rr, rr, rr, rr, trivial⟩)
      · have hk2 := hk
        rw [e2] at hk2
        have hke : k = (h.getD (j : Int).toNat hi0).legs.length := by omega
        conv => whnf
        repeat' (first | (refine br_intro ?_ ?_ <;> intro hb <;> (try simp only [brs] at hb) <;> conv => whnf) | (refine RegX.rule (id := 12) hT rfl [] oTClB123_12 (by decide +kernel) ?_; conv => whnf) | (refine RegX.rule (id := 24) hT rfl [] oTClB123_24 (by decide +kernel) ?_; conv => whnf) | (refine RegX.rule (id := 25) hT rfl [] oTClB123_25 (by decide +kernel) ?_; conv => whnf) | omega | (refine And.intro ?_ ?_; ((try dsimp only); first | omega | (refine szA rfl ?_; omega) | (refine szB rfl ?_; omega) | (unfold inI64; omega) | exact rfl | (simp only [lns] at *; omega) | decide | (unfold inI64; decide)); conv => whnf) | decide | assumption)
        all_goals try (exfalso; omega)
        have hs : accH (o.getD (i : Int).toNat hld0) h (j + 1) = accH (o.getD (i : Int).toNat hld0) h j ++ accL (o.getD (i : Int).toNat hld0) (h.getD (j : Int).toNat hi0).legs k := by rw [accH_succ hj, hke, e2]
        refine ⟨j + 1, by omega, by omega, ?_⟩
        rw [hs, ← List.append_assoc]
        exact Entails.mk' [(1000001, 1000001), (2, 2), (7, 7), (5, 5)] rfl rfl ⟨lr, lr, lr, lr, lr, lr, lr, lr, lr, trivial⟩ ⟨rr, rr, rr, rr, trivial⟩
    · have hje : j = h.length := by omega
      conv => whnf
      repeat' (first | (refine br_intro ?_ ?_ <;> intro hb <;> (try simp only [brs] at hb) <;> conv => whnf) | (refine RegX.rule (id := 12) hT rfl [] oTClB123_12 (by decide +kernel) ?_; conv => whnf) | (refine RegX.rule (id := 24) hT rfl [] oTClB123_24 (by decide +kernel) ?_; conv => whnf) | (refine RegX.rule (id := 25) hT rfl [] oTClB123_25 (by decide +kernel) ?_; conv => whnf) | omega | (refine And.intro ?_ ?_; ((try dsimp only); first | omega | (refine szA rfl ?_; omega) | (refine szB rfl ?_; omega) | (unfold inI64; omega) | exact rfl | (simp only [lns] at *; omega) | decide | (unfold inI64; decide)); conv => whnf) | decide | assumption)
      all_goals try (exfalso; omega)
      have hs : accO o h (i + 1) = accO o h i ++ accH (o.getD (i : Int).toNat hld0) h j := by rw [accO_succ hi, hje, e1]
      refine ⟨i + 1, by omega, by omega, ?_⟩
      rw [hs]
      exact Entails.mk' [(1000001, 1000001), (2, 2), (5, 5)] rfl rfl ⟨lr, lr, lr, lr, lr, trivial⟩ ⟨rr, rr, rr, trivial⟩
  · have hio : i = o.length := by omega
    subst hio
    rw [accO_all] at hOl
    conv => whnf
    repeat' (first | (refine br_intro ?_ ?_ <;> intro hb <;> (try simp only [brs] at hb) <;> conv => whnf) | (refine RegX.rule (id := 12) hT rfl [] oTClB123_12 (by decide +kernel) ?_; conv => whnf) | (refine RegX.rule (id := 24) hT rfl [] oTClB123_24 (by decide +kernel) ?_; conv => whnf) | (refine RegX.rule (id := 25) hT rfl [] oTClB123_25 (by decide +kernel) ?_; conv => whnf) | omega | (refine And.intro ?_ ?_; ((try dsimp only); first | omega | (refine szA rfl ?_; omega) | (refine szB rfl ?_; omega) | (unfold inI64; omega) | exact rfl | (simp only [lns] at *; omega) | decide | (unfold inI64; decide)); conv => whnf) | decide | assumption)
    all_goals try (exfalso; omega)
    refine CallX.of (c182 (allW o h) (by omega)) [(1000001, 5)] rfl ⟨lr, lr, trivial⟩ ⟨by rw [accO_all]; exact rr, trivial⟩ rfl rfl ?_
    rintro x rout ⟨rfl, m, hm, hms, rfl⟩
    refine ⟨rfl, ?_⟩
    conv => whnf
    repeat' (first | (refine br_intro ?_ ?_ <;> intro hb <;> (try simp only [brs] at hb) <;> conv => whnf) | (refine RegX.rule (id := 12) hT rfl [] oTClB123_12 (by decide +kernel) ?_; conv => whnf) | (refine RegX.rule (id := 24) hT rfl [] oTClB123_24 (by decide +kernel) ?_; conv => whnf) | (refine RegX.rule (id := 25) hT rfl [] oTClB123_25 (by decide +kernel) ?_; conv => whnf) | omega | (refine And.intro ?_ ?_; ((try dsimp only); first | omega | (refine szA rfl ?_; omega) | (refine szB rfl ?_; omega) | (unfold inI64; omega) | exact rfl | (simp only [lns] at *; omega) | decide | (unfold inI64; decide)); conv => whnf) | decide | assumption)
    have hml := hm.length_eq
    have hmb : ∀ w ∈ m, 0 ≤ w.1 ∧ w.2 ≤ 5761440 := fun w hw => hb2 w (hm.mem_iff.1 hw)
    refine LoopX.rule hT (C := []) (ι := Nat × List Win) (fun (i, out) => i ≤ m.length ∧ Mrg m i out) (fun (i, out) => mkSt [(13, .buf 13), (77, .buf 5), (78, .d (.int .i64 m.length)), (79, .d (.int .i64 i))] [(1000001, mV H v), (5, vwB m), (13, vwB out)]) (fun (i, _) => m.length - i) (0, []) ⟨by omega, Mrg.nil m⟩ ?_ ?_
    · exact (Entails.nil 13 13 65 2 (rowF vwF vw0 []) rfl rfl (by decide)).trans (Entails.mk' [(1000001, 1000001), (5, 5), (13, 13)] rfl rfl ⟨lr, lr, lr, lr, trivial⟩ ⟨rr, rr, rr, trivial⟩)
    rintro ⟨i, out⟩ ⟨p1, hM⟩
    have p1 : i ≤ m.length := p1
    have hM : Mrg m i out := hM
    have e1 : (i : Int).toNat = i := Int.toNat_natCast i
    have hol2 := hM.len
    rcases Nat.lt_or_ge i m.length with hi | hi
    · have hwk : (m.getD i vw0).1 < (m.getD i vw0).2 := hb1 _ (hm.mem_iff.1 (getD_mem hi))
      rcases List.eq_nil_or_concat out with rfl | ⟨o', z, rfl⟩
      · conv => whnf
        repeat' (first | (refine br_intro ?_ ?_ <;> intro hb <;> (try simp only [brs] at hb) <;> conv => whnf) | (refine RegX.rule (id := 12) hT rfl [] oTClB123_12 (by decide +kernel) ?_; conv => whnf) | (refine RegX.rule (id := 24) hT rfl [] oTClB123_24 (by decide +kernel) ?_; conv => whnf) | (refine RegX.rule (id := 25) hT rfl [] oTClB123_25 (by decide +kernel) ?_; conv => whnf) | omega | (refine And.intro ?_ ?_; ((try dsimp only); first | omega | (refine szA rfl ?_; omega) | (refine szB rfl ?_; omega) | (unfold inI64; omega) | exact rfl | (simp only [lns] at *; omega) | decide | (unfold inI64; decide)); conv => whnf) | decide | assumption)
        all_goals try (exfalso; first | omega | (simp at hb; done))
        refine ⟨(i + 1, [] ++ [m.getD i vw0]), ⟨by show i + 1 ≤ m.length; omega, hM.app hms hi hwk hmb (by simp)⟩, by show m.length - (i + 1) < m.length - i; omega, Entails.mk' [(1000001, 1000001), (5, 5), (13, 115)] rfl rfl ⟨lr, lr, lr, lr, trivial⟩ ⟨rr, rr, Res.le_snocF (by rfl), trivial⟩⟩
      · rw [List.concat_eq_append] at hM hol2 ⊢
        have hl1 : 0 < (o' ++ [z]).length := by simp
        have hln : (((o' ++ [z]).length : Int) - 1).toNat = o'.length := by simp
        have hz : (o' ++ [z]).getD (((o' ++ [z]).length : Int) - 1).toNat vw0 = z := by rw [hln]; simp
        conv => whnf
        repeat' (first | (refine br_intro ?_ ?_ <;> intro hb <;> (try simp only [brs] at hb) <;> conv => whnf) | (refine RegX.rule (id := 12) hT rfl [] oTClB123_12 (by decide +kernel) ?_; conv => whnf) | (refine RegX.rule (id := 24) hT rfl [] oTClB123_24 (by decide +kernel) ?_; conv => whnf) | (refine RegX.rule (id := 25) hT rfl [] oTClB123_25 (by decide +kernel) ?_; conv => whnf) | omega | (refine And.intro ?_ ?_; ((try dsimp only); first | omega | (refine szA rfl ?_; omega) | (refine szB rfl ?_; omega) | (unfold inI64; omega) | exact rfl | (simp only [lns] at *; omega) | decide | (unfold inI64; decide)); conv => whnf) | decide | assumption)
        all_goals try (exfalso; first | omega | (simp at hb; done))
        · rw [hz] at hb
          refine ⟨(i + 1, o' ++ [(z.1, max z.2 (m.getD i vw0).2)]), ⟨by show i + 1 ≤ m.length; omega, hM.join hms hi hwk hmb hb⟩, by show m.length - (i + 1) < m.length - i; omega, Entails.mk' [(1000001, 1000001), (5, 5), (13, 13)] rfl rfl ⟨lr, lr, lr, lr, trivial⟩ ⟨rr, rr, ?_, trivial⟩⟩
          have hset : o' ++ [(z.1, max z.2 (m.getD i vw0).2)] = (o' ++ [z]).set (((o' ++ [z]).length : Int) - 1).toNat ((fun y : Win => (y.1, max ((o' ++ [z]).getD (((o' ++ [z]).length : Int) - 1).toNat vw0).2 (m.getD (i : Int).toNat vw0).2)) ((o' ++ [z]).getD (((o' ++ [z]).length : Int) - 1).toNat vw0)) := by
           simp only [hz, e1, hln]
           rw [List.set_append_right _ _ (Nat.le_refl _)]
           simp
          show Res.le _ (vwB (o' ++ [(z.1, max z.2 (m.getD i vw0).2)]))
          rw [hset]
          exact Res.le_upd (fun y : Win => (y.1, max ((o' ++ [z]).getD (((o' ++ [z]).length : Int) - 1).toNat vw0).2 (m.getD (i : Int).toNat vw0).2)) (fun y => rfl)
        · rw [hz] at hb
          have hlt : ∀ w ∈ o' ++ [z], w.2 < (m.getD i vw0).1 := by
           intro w hw
           rcases List.mem_append.1 hw with q | q
           · have h1 := (List.pairwise_append.1 hM.pw).2.2 w q z (by simp)
             have h2 := hM.ok z (by simp)
             omega
           · rw [List.mem_singleton] at q; subst q; omega
          refine ⟨(i + 1, (o' ++ [z]) ++ [m.getD i vw0]), ⟨by show i + 1 ≤ m.length; omega, hM.app hms hi hwk hmb hlt⟩, by show m.length - (i + 1) < m.length - i; omega, Entails.mk' [(1000001, 1000001), (5, 5), (13, 115)] rfl rfl ⟨lr, lr, lr, lr, trivial⟩ ⟨rr, rr, Res.le_snocF (by rfl), trivial⟩⟩
    · have him : i = m.length := by omega
      subst him
      conv => whnf
      repeat' (first | (refine br_intro ?_ ?_ <;> intro hb <;> (try simp only [brs] at hb) <;> conv => whnf) | (refine RegX.rule (id := 12) hT rfl [] oTClB123_12 (by decide +kernel) ?_; conv => whnf) | (refine RegX.rule (id := 24) hT rfl [] oTClB123_24 (by decide +kernel) ?_; conv => whnf) | (refine RegX.rule (id := 25) hT rfl [] oTClB123_25 (by decide +kernel) ?_; conv => whnf) | omega | (refine And.intro ?_ ?_; ((try dsimp only); first | omega | (refine szA rfl ?_; omega) | (refine szB rfl ?_; omega) | (unfold inI64; omega) | exact rfl | (simp only [lns] at *; omega) | decide | (unfold inI64; decide)); conv => whnf) | decide | assumption)
      all_goals try (exfalso; omega)
      refine .freeze _ 13 65 2 _ _ rfl (.weak _ ?_)
      conv => whnf
      have hI : IsM o h out := ⟨fun t => by
       rw [hM.hit t, List.take_length]
       exact ⟨fun ⟨w, a, b⟩ => ⟨w, hm.mem_iff.1 a, b⟩, fun ⟨w, a, b⟩ => ⟨w, hm.mem_iff.2 a, b⟩⟩, hM.pw, hM.ok, hM.bd, by omega⟩
      exact ⟨.d (wins out), [(1000001, mV H v)], lr, ⟨⟨out, hI, rfl⟩, rfl⟩, rr, trivial⟩
def fitK (O : List UInt8 → List Hld) (h : List Hir) (l : List Pas) (g : List UInt8) : Nat → Int → Int
 | 0, _ => 0
 | i + 1, c => fitK O h l g i c + (if (l.getD i pa0).gate = g ∧ 0 ≤ ownK (O (l.getD i pa0).plate) h ((l.getD i pa0).tm - c) then 1 else 0)
theorem fitK_bd (O : List UInt8 → List Hld) (h : List Hir) (l : List Pas) (g : List UInt8) (c : Int) : ∀ i, 0 ≤ fitK O h l g i c ∧ fitK O h l g i c ≤ i := by
 intro i
 induction i with
 | zero => exact ⟨Int.le_refl _, Int.le_refl _⟩
 | succ i ih =>
   rw [fitK]
   split
   · push_cast; omega
   · push_cast; omega
structure MI (k : Nat) (B : Int) (F : Int → Int) (M : List Int) : Prop where
 len : M.length = 2 * k + 2
 sum : ∀ c, -(k : Int) ≤ c → c ≤ k → (M.take (c + k + 1).toNat).sum = F c
 bd : ∀ j, -B ≤ M.getD j 0 ∧ M.getD j 0 ≤ B
theorem MI.zero (k : Nat) : MI k 0 (fun _ => 0) (List.replicate (2 * k + 2) 0) := by
 refine ⟨List.length_replicate, fun c _ _ => ?_, fun j => ?_⟩
 · rw [List.take_replicate]; simp
 · have : (List.replicate (2 * k + 2) (0 : Int)).getD j 0 = 0 := by
    rw [List.getD_eq_getElem?_getD, List.getElem?_replicate]; split <;> rfl
   rw [this]; omega
theorem MI.mono {k : Nat} {B C : Int} {F G : Int → Int} {M : List Int} (h : MI k B F M) (hb : B ≤ C) (hF : ∀ c, -(k : Int) ≤ c → c ≤ k → F c = G c) : MI k C G M :=
 ⟨h.len, fun c c1 c2 => by rw [h.sum c c1 c2, hF c c1 c2], fun j => by have := h.bd j; omega⟩
theorem getD_setD {M : List Int} {a j : Nat} {v : Int} : (M.set a v).getD j 0 = if a = j ∧ j < M.length then v else M.getD j 0 := by
 rw [List.getD_eq_getElem?_getD, List.getD_eq_getElem?_getD, List.getElem?_set]
 by_cases h : a = j
 · subst h
   by_cases h2 : a < M.length
   · simp [h2]
   · simp [h2]
 · simp [h]
theorem MI.upd {k : Nat} {B : Int} {F : Int → Int} {M : List Int} (h : MI k B F M) {lo hi : Int} (h1 : -(k : Int) ≤ lo) (h2 : lo ≤ hi) (h3 : hi ≤ k) :
 MI k (B + 1) (fun c => F c + if lo ≤ c ∧ c ≤ hi then 1 else 0) ((M.set (lo + k).toNat (M.getD (lo + k).toNat 0 + 1)).set (hi + k + 1).toNat (M.getD (hi + k + 1).toNat 0 - 1)) := by
 have hl := h.len
 have ha : (lo + k).toNat < M.length := by omega
 have hb : (hi + k + 1).toNat < (M.set (lo + k).toNat (M.getD (lo + k).toNat 0 + 1)).length := by rw [List.length_set]; omega
 have hab : (lo + k).toNat ≠ (hi + k + 1).toNat := by omega
 refine ⟨by rw [List.length_set, List.length_set]; exact hl, fun c c1 c2 => ?_, fun j => ?_⟩
 · rw [sum_set _ _ _ _ hb, sum_set _ _ _ _ ha, h.sum c c1 c2, getD_setD, if_neg (fun q : (lo + k).toNat = (hi + k + 1).toNat ∧ _ => hab q.1)]
   have e1 : (lo + k).toNat < (c + k + 1).toNat ↔ lo ≤ c := by omega
   have e2 : (hi + k + 1).toNat < (c + k + 1).toNat ↔ hi < c := by omega
   simp only [e1, e2]
   by_cases d1 : lo ≤ c
   · by_cases d2 : hi < c
     · rw [if_pos d1, if_pos d2, if_neg (by omega)]; omega
     · rw [if_pos d1, if_neg d2, if_pos (by omega)]; omega
   · rw [if_neg d1, if_neg (by omega), if_neg (by omega)]; omega
 · rw [getD_setD, getD_setD]
   have b1 := h.bd j
   have b2 := h.bd (lo + k).toNat
   have b3 := h.bd (hi + k + 1).toNat
   split
   · omega
   · split <;> omega
theorem hit_iff {k : Nat} {c t : Int} {w : Win} (h1 : -(k : Int) ≤ c) (h2 : c ≤ k) : (max (t - w.2 + 1) (-(k : Int)) ≤ c ∧ c ≤ min (t - w.1) k) ↔ hitT (t - c) w = true := by
 unfold hitT; simp only [Bool.and_eq_true, decide_eq_true_eq]; omega
theorem MI.win {k : Nat} {B : Int} {F : Int → Int} {M : List Int} {t : Int} {W : List Win} {j : Nat} (hj : j < W.length) (h : MI k B (fun c => F c + (cntW (t - c) (W.take j) : Int)) M) (h2 : max (t - (W.getD j vw0).2 + 1) (-(k : Int)) ≤ min (t - (W.getD j vw0).1) k) :
 MI k (B + 1) (fun c => F c + (cntW (t - c) (W.take (j + 1)) : Int)) ((M.set (max (t - (W.getD j vw0).2 + 1) (-(k : Int)) + k).toNat (M.getD (max (t - (W.getD j vw0).2 + 1) (-(k : Int)) + k).toNat 0 + 1)).set (min (t - (W.getD j vw0).1) k + k + 1).toNat (M.getD (min (t - (W.getD j vw0).1) k + k + 1).toNat 0 - 1)) := by
 refine (h.upd (by omega) h2 (by omega)).mono (Int.le_refl _) fun c c1 c2 => ?_
 rw [cntW_take hj]
 simp only [hit_iff c1 c2]
 split <;> (push_cast; omega)
theorem MI.skip {k : Nat} {B : Int} {F : Int → Int} {M : List Int} {t : Int} {W : List Win} {j : Nat} (hj : j < W.length) (h : MI k B (fun c => F c + (cntW (t - c) (W.take j) : Int)) M) (h2 : ¬ max (t - (W.getD j vw0).2 + 1) (-(k : Int)) ≤ min (t - (W.getD j vw0).1) k) :
 MI k (B + 1) (fun c => F c + (cntW (t - c) (W.take (j + 1)) : Int)) M := by
 refine h.mono (by omega) fun c c1 c2 => ?_
 rw [cntW_take hj, if_neg]
 · push_cast; omega
 · rw [← hit_iff c1 c2]; omega
theorem MI.start {k : Nat} {B : Int} {F : Int → Int} {M : List Int} {t : Int} {W : List Win} (h : MI k B F M) : MI k B (fun c => F c + (cntW (t - c) (W.take 0) : Int)) M :=
 h.mono (Int.le_refl _) fun c _ _ => by simp [cntW]
theorem cntW_own {f : Flt} {h : List Hir} (hf : fltE f = 0) {p : List UInt8} {W : List Win} (hW : IsM ((hend f.plt).out p) h W) (t : Int) : (cntW t W : Int) = if 0 ≤ ownK ((hend f.plt).out p) h t then 1 else 0 := by
 have h1 := allW_own (l := h) hf p t
 rw [cntW_one hW.pw hW.ok]
 simp only [hW.hit t, h1]
 split <;> rfl
theorem MI.done {f : Flt} {h : List Hir} (hf : fltE f = 0) {k : Nat} {B : Int} {l : List Pas} {g : List UInt8} {i : Nat} {M : List Int} {W : List Win} {j : Nat} (hg : (l.getD i pa0).gate = g) (hW : IsM ((hend f.plt).out (l.getD i pa0).plate) h W) (hj : j = W.length)
 (q : MI k B (fun c => fitK (hend f.plt).out h l g i c + (cntW ((l.getD i pa0).tm - c) (W.take j) : Int)) M) : MI k B (fitK (hend f.plt).out h l g (i + 1)) M := by
 refine q.mono (Int.le_refl _) fun c _ _ => ?_
 subst hj
 rw [List.take_length, cntW_own hf hW, fitK]
 simp only [hg, true_and]
theorem MI.pass {O : List UInt8 → List Hld} {h : List Hir} {k : Nat} {B : Int} {l : List Pas} {g : List UInt8} {i : Nat} {M : List Int} (hg : (l.getD i pa0).gate ≠ g) (q : MI k B (fitK O h l g i) M) : MI k B (fitK O h l g (i + 1)) M := by
 refine q.mono (Int.le_refl _) fun c _ _ => ?_
 rw [fitK, if_neg (fun z => hg z.1)]; omega
theorem MI.done2 {f : Flt} {h : List Hir} (hf : fltE f = 0) {O : List UInt8 → List Hld} (hO : O = (hend f.plt).out) {k : Nat} {B C : Int} {l : List Pas} {g : List UInt8} {i : Nat} {M : List Int} {W : List Win} {j : Nat} (hg : (l.getD i pa0).gate = g) (hW : IsM (O (l.getD i pa0).plate) h W) (hj : j = W.length) (hBC : B ≤ C)
 (q : MI k B (fun c => fitK O h l g i c + (cntW ((l.getD i pa0).tm - c) (W.take j) : Int)) M) : MI k C (fitK O h l g (i + 1)) M := by
 subst hO
 exact (MI.done hf hg hW hj q).mono hBC fun _ _ _ => rfl
def oTClC49_13 : List (Nat × List Nat) := [(0, []), (1, [0]), (2, [0]), (3, [0, 1, 2]), (4, [0, 1, 2, 3]), (5, [0, 1, 2, 3]), (6, [0, 1, 2]), (7, [])]
def oTClC49_17 : List (Nat × List Nat) := [(0, []), (1, []), (2, [0, 1]), (3, [0, 1]), (4, []), (5, []), (6, [0, 1, 2, 3, 4, 5]), (7, [0, 1, 2, 3, 4, 5]), (8, []), (9, [0, 1, 2, 3, 4, 5, 6, 7, 8]), (10, [0, 1, 2, 3, 4, 5, 6, 7, 8]), (11, [0, 1, 2, 3, 4, 5, 6, 7, 8, 9, 10]), (12, [0, 1, 2, 3, 4, 5, 6, 7, 8, 9, 10]), (13, [0, 1, 2, 3, 4, 5, 6, 7, 8]), (14, [0, 1, 2, 3, 4, 5, 6, 7, 8, 9, 10, 11, 12, 13]), (15, [0, 1, 2, 3, 4, 5, 6, 7, 8]), (16, [9, 10, 11, 12, 13, 14, 15]), (17, [])]
def clkE (f : Flt) (h : List Hir) (l : List Pas) (g : List UInt8) (m : Int) : Int := firstE [fltE f, hirsE h, formE l, if (!isKeyB g) = true then 5 else 0, if (!decide (0 ≤ m ∧ m ≤ 1440)) = true then 1 else 0]
theorem clkE_eq (f : Flt) (h : List Hir) (l : List Pas) (g : List UInt8) (m : Int) : firstE [offE f h, formE l, if (!isKeyB g) = true then 5 else 0, if (!decide (0 ≤ m ∧ m ≤ 1440)) = true then 1 else 0] = clkE f h l g m := by
 unfold clkE offE
 simp only [firstE]
 grind
theorem clkE_zero {f : Flt} {h : List Hir} {l : List Pas} {g : List UInt8} {m : Int} (q : clkE f h l g m = 0) : fltE f = 0 ∧ hirsE h = 0 ∧ formE l = 0 ∧ 0 ≤ m ∧ m ≤ 1440 := by
 unfold clkE at q
 simp only [firstE] at q
 grind
theorem le_zer {n : Int} {m : Nat} (h : n.toNat = m) : Res.le (.buf 3 1 n.toNat fun _ => [cstD (.int .i64 0)]) (seqB 3 1 iF 0 (List.replicate m 0)) := by
 subst h
 exact Res.le_zeros
theorem keyEq_self (p : List UInt8) : keyEq [.str p] [.str p] = true := by rw [keyEq_str _ rfl]; simp [strK]
theorem le_updV (H : List UInt8 → Bool) (v : List UInt8 → DV) (p : List UInt8) (x : DV) : Res.le (.map false false [.str] [.nilsl] (fun q => keyEq q [.str p] || H (strK q)) (fun q => bif keyEq q [.str p] then [x] else [v (strK q)]))
 (mV (fun q => decide (q = p) || H q) (fun q => if q = p then x else v q)) := Res.le_map fun k hk => by
 rw [keyEq_str k hk p]
 by_cases hq : strK k = p
 · simp [hq]
 · simp [hq]
theorem allW_in {f : Flt} {h : List Hir} (E1 : fltE f = 0) (hs : ∀ x ∈ h, lgSeq x.legs) (p : List UInt8) : (∀ w ∈ allW ((hend f.plt).out p) h, w.1 < w.2) ∧ ∀ w ∈ allW ((hend f.plt).out p) h, 0 ≤ w.1 ∧ w.2 ≤ 5761440 := by
 have key : ∀ w ∈ allW ((hend f.plt).out p) h, w.1 < w.2 ∧ 0 ≤ w.1 ∧ w.2 ≤ 5761440 := by
  intro w hw
  unfold allW cutHl cutHh at hw
  rw [List.mem_flatMap] at hw
  obtain ⟨x, hx, hw⟩ := hw
  rw [List.mem_flatMap] at hw
  obtain ⟨y, hy, hw⟩ := hw
  rw [List.mem_flatMap] at hw
  obtain ⟨g, hg, hw⟩ := hw
  have h1 := (hs y hy).1 g hg
  unfold cutG at hw
  split at hw
  · rename_i c
    rw [List.mem_singleton] at hw
    subst hw
    refine ⟨c.2, ?_, ?_⟩
    · show 0 ≤ max g.out.tm x.frm; omega
    · show min (lastE g) x.til ≤ 5761440; omega
  · cases hw
 exact ⟨fun w hw => (key w hw).1, fun w hw => (key w hw).2⟩
def seenOk (O : List UInt8 → List Hld) (h : List Hir) (H : List UInt8 → Bool) (v : List UInt8 → DV) : Prop := ∀ q, (H q = true → ∃ W, v q = wins W ∧ IsM (O q) h W) ∧ (H q = false → v q = .nilsl)
theorem seenOk.add {O : List UInt8 → List Hld} {h : List Hir} {H : List UInt8 → Bool} {v : List UInt8 → DV} (k : seenOk O h H v) {p : List UInt8} {W : List Win} (hW : IsM (O p) h W) : seenOk O h (fun q => decide (q = p) || H q) (fun q => if q = p then wins W else v q) := by
 intro q
 by_cases c : q = p
 · subst c; exact ⟨fun _ => ⟨W, by simp, hW⟩, fun z => by simp at z⟩
 · refine ⟨fun hq => ?_, fun hq => ?_⟩
   · have : H q = true := by simpa [c] using hq
     obtain ⟨X, x1, x2⟩ := (k q).1 this
     exact ⟨X, by simp [c, x1], x2⟩
   · have : H q = false := by simpa [c] using hq
     simp [c, (k q).2 this]
set_option maxHeartbeats 8000000 in
theorem c49 (f : Flt) (hk : fltOk f) (h : List Hir) (hh : hiOk h) (hhl : h.length ≤ 1024) (hlg : ∀ x ∈ h, x.legs.length ≤ 1024) (l : List Pas) (hl : pOk l) (g : List UInt8) (hgl : g.length ≤ 2^40) (m : Int) (hm : -2^40 ≤ m ∧ m ≤ 2^40) :
 FSpec Tryz.prog 49 [flt f, .d (hirs h), .d (pass l), .d (.str g), .d (.int .i64 m)] [] (fun y r => (∃ b n, (if clkE f h l g m ≠ 0 then b = 0 ∧ n = 0 else bestIn (fitK (hend f.plt).out h l g l.length) (-m) m b ∧ n = fitK (hend f.plt).out h l g l.length b) ∧ y = .tup [.d (.int .i64 b), .d (.int .i64 n), .d (.int .i64 (clkE f h l g m))]) ∧ r = []) := by
 have h3 := s105 [offE f h, formE l, if (!isKeyB g) = true then 5 else 0, if (!decide (0 ≤ m ∧ m ≤ 1440)) = true then 1 else 0] (by simp)
 rw [clkE_eq] at h3
 refine spec_of hT (C := []) Tryz.func49 rfl Tryz.call49 rfl rfl rfl ?_
 conv => whnf
 repeat' (first | (refine CallX.exact (z72 f hk h hh) rfl rfl ?_; rotate_right; conv => whnf) | (refine CallX.exact (s152 l hl) rfl rfl ?_; rotate_right; conv => whnf) | (refine CallX.exact (s108 g hgl) rfl rfl ?_; rotate_right; conv => whnf) | (refine CallX.exact (s107 _ _) rfl rfl ?_; rotate_right; conv => whnf) | (refine CallX.exact (s119 _ _ _) rfl rfl ?_; rotate_right; conv => whnf) | (refine CallX.pure h3 ⟨SV.le_lit (by rfl) (by rfl), trivial⟩ rfl ?_; conv => whnf) | (refine br_intro ?_ ?_ <;> intro hb <;> (try simp only [brs] at hb) <;> conv => whnf) | (refine RegX.rule (id := 13) hT rfl [] oTClC49_13 (by decide +kernel) ?_; conv => whnf) | (refine RegX.rule (id := 17) hT rfl [] oTClC49_17 (by decide +kernel) ?_; conv => whnf) | omega | (refine And.intro ?_ ?_; ((try dsimp only); first | omega | (refine szA rfl ?_; omega) | (refine szB rfl ?_; omega) | (unfold inI64; omega) | exact rfl | (simp only [lns] at *; omega) | decide | (unfold inI64; decide)); conv => whnf) | decide | assumption)
 · refine .ret _ ?_
   conv => whnf
   exact ⟨[], ⟨⟨0, 0, by rw [if_pos hb]; exact ⟨rfl, rfl⟩, rfl⟩, rfl⟩, trivial⟩
 have E0 : clkE f h l g m = 0 := hb
 obtain ⟨E1, E2, E3, m1, m2⟩ := clkE_zero E0
 obtain ⟨hs, hpl⟩ := fltE_srt E1
 obtain ⟨hll, htm⟩ := form_zero E3
 have hseq : ∀ x ∈ h, lgSeq x.legs := fun x hx => lgSeq_of ((hirs_seq E2).1 x hx)
 obtain ⟨k, rfl⟩ : ∃ k : Nat, m = k := ⟨m.toNat, by omega⟩
 rw [E0]
 obtain ⟨O, hO⟩ : ∃ O, O = (hend f.plt).out := ⟨_, rfl⟩
 have hOl : ∀ q, (O q).length ≤ 1000 := fun q => by rw [hO]; exact Nat.le_trans (hend_len _ _) hpl
 have hall : ∀ p, (∀ w ∈ allW (O p) h, w.1 < w.2) ∧ ∀ w ∈ allW (O p) h, 0 ≤ w.1 ∧ w.2 ≤ 5761440 := fun p => by rw [hO]; exact allW_in E1 hseq p
 refine CallX.of (z73 f hpl hs h) [(6, 30)] rfl ⟨lr, lr, trivial⟩ trivial rfl rfl ?_
 rintro x rout ⟨rfl, rfl⟩
 refine ⟨rfl, ?_⟩
 conv => whnf
 repeat' (first | (refine br_intro ?_ ?_ <;> intro hb <;> (try simp only [brs] at hb) <;> conv => whnf) | (refine RegX.rule (id := 13) hT rfl [] oTClC49_13 (by decide +kernel) ?_; conv => whnf) | (refine RegX.rule (id := 17) hT rfl [] oTClC49_17 (by decide +kernel) ?_; conv => whnf) | omega | (refine And.intro ?_ ?_; ((try dsimp only); first | omega | (refine szA rfl ?_; omega) | (refine szB rfl ?_; omega) | (unfold inI64; omega) | exact rfl | (simp only [lns] at *; omega) | decide | (unfold inI64; decide)); conv => whnf) | decide | assumption)
 refine LoopX.rule hT (C := []) (ι := Nat × (List UInt8 → Bool) × (List UInt8 → DV) × List Int) (fun (i, H, v, M) => i ≤ l.length ∧ seenOk O h H v ∧ MI k ((i : Int) * 2147483648) (fitK O h l g i) M)
  (fun (i, H, v, M) => mkSt [(3, .d (.str g)), (4, .d (.int .i64 k)), (14, .ptr 14 0), (15, .mp 15), (16, .buf 16), (55, .d (pass l)), (56, .d (.int .i64 l.length)), (57, .d (.int .i64 i))] [(14, .cells 137 [.mp 30, .d (hirs h)]), (30, mF O), (15, mV H v), (16, seqB 3 1 iF 0 M)])
  (fun (i, _) => l.length - i) (0, (fun _ => false), (fun _ => .nilsl), List.replicate (2 * k + 2) 0) ⟨Nat.zero_le _, (fun q => ⟨fun hq => (nomatch hq), fun _ => rfl⟩ : seenOk O h (fun _ => false) (fun _ => .nilsl)), (MI.zero k).mono (by omega) (fun _ _ _ => rfl)⟩ ?_ ?_
 · exact Entails.mk' [(14, 14), (30, 30), (15, 50), (16, 54)] rfl rfl ⟨lr, lr, lr, lr, lr, lr, lr, lr, trivial⟩ ⟨rr, by rw [hO]; exact rr, Res.le_map (fun k hk => ⟨rfl, rfl⟩), le_zer (by omega), trivial⟩
 rintro ⟨i, H, v, M⟩ ⟨p1, hS, hMI⟩
 have p1 : i ≤ l.length := p1
 have hS : seenOk O h H v := hS
 have hMI : MI k ((i : Int) * 2147483648) (fitK O h l g i) M := hMI
 have e1 : (i : Int).toNat = i := Int.toNat_natCast i
 rcases Nat.lt_or_ge i l.length with hi | hi
 · have ht := htm (l.getD (i : Int).toNat pa0) (getD_mem (by omega))
   refine' LoopX.shareX (P := Tryz.prog) (α := (List UInt8 → Bool) × (List UInt8 → DV) × List Win) (fun (H2, v2, W) => mkSt [(3, .d (.str g)), (4, .d (.int .i64 k)), (14, .ptr 14 0), (15, .mp 15), (16, .buf 16), (18, .ptr 18 0), (55, .d (pass l)), (56, .d (.int .i64 l.length)), (57, .d (.int .i64 i)), (84, .d (wins W)), (85, .d (.int .i64 W.length)), (86, .d (.int .i64 0))] [(14, .cells 137 [.mp 30, .d (hirs h)]), (30, mF O), (15, mV H2 v2), (16, seqB 3 1 iF 0 M), (18, .cells 106 ((paF (l.getD (i : Int).toNat pa0)).map .d))]) (fun (H2, v2, W) => seenOk O h H2 v2 ∧ IsM (O (l.getD (i : Int).toNat pa0).plate) h W ∧ (l.getD (i : Int).toNat pa0).gate = g) ?main ?tail
   case main =>
    intro tail
    cases hH : H (l.getD (i : Int).toNat pa0).plate with
    | true =>
      obtain ⟨W, hv, hW⟩ := (hS _).1 hH
      have ev : v (strK [.str (l.getD (i : Int).toNat pa0).plate]) = wins W := hv
      have eh : H (strK [.str (l.getD (i : Int).toNat pa0).plate]) = true := hH
      conv => whnf
      repeat' (first | (rw [ev]; conv => whnf) | (refine br_intro ?_ ?_ <;> intro hb <;> (try simp only [brs] at hb) <;> conv => whnf) | (refine RegX.rule (id := 13) hT rfl [] oTClC49_13 (by decide +kernel) ?_; conv => whnf) | (refine RegX.rule (id := 17) hT rfl [] oTClC49_17 (by decide +kernel) ?_; conv => whnf) | omega | (refine And.intro ?_ ?_; ((try dsimp only); first | omega | (refine szA rfl ?_; omega) | (refine szB rfl ?_; omega) | (unfold inI64; omega) | exact rfl | (simp only [lns] at *; omega) | decide | (unfold inI64; decide)); conv => whnf) | decide | assumption)
      all_goals try (have q := ‹H (strK [DV.str (l.getD (i : Int).toNat pa0).plate]) = false›; rw [eh] at q; cases q)
      · have hg : (l.getD i pa0).gate ≠ g := hb
        exact ⟨(i + 1, H, v, M), ⟨by show i + 1 ≤ l.length; omega, hS, (hMI.pass hg).mono (by push_cast; omega) (fun _ _ _ => rfl)⟩, by show l.length - (i + 1) < l.length - i; omega, (by (refine Entails.mk' [(14, 14), (30, 30), (15, 15), (16, 16)] rfl rfl ?_ ?_ <;> repeat' (first | exact True.intro | exact lr | exact rr | exact SV.le_int (by omega) | exact SV.le_any _ | refine And.intro ?_ ?_)); done)⟩
      · refine LoopX.ent ?_ (tail (H, v, W) ⟨hS, hW, by assumption⟩)
        exact Entails.mk' [(14, 14), (30, 30), (15, 15), (16, 16), (18, 18)] rfl rfl ⟨lr, lr, lr, lr, lr, lr, lr, lr, lr, lr, lr, lr, trivial⟩ ⟨rr, rr, rr, rr, rr, trivial⟩
    | false =>
      have ev : v (strK [.str (l.getD (i : Int).toNat pa0).plate]) = .nilsl := (hS _).2 hH
      have eh : H (strK [.str (l.getD (i : Int).toNat pa0).plate]) = false := hH
      conv => whnf
      repeat' (first | (rw [ev]; conv => whnf) | (refine CallX.of (c123 (fun p => !(O p).isEmpty) (fun p => vF (O p)) (O (l.getD (i : Int).toNat pa0).plate) h (l.getD (i : Int).toNat pa0).plate (Nat.le_trans (hOl _) (by decide)) hhl hlg (vF_or _) (hall _).1 (hall _).2) [(1000001, 30)] rfl ⟨lr, lr, trivial⟩ ⟨rr, trivial⟩ rfl rfl ?_; rintro x rout ⟨⟨W, hW, rfl⟩, rfl⟩; refine ⟨rfl, ?_⟩; conv => whnf) | (simp only [keyEq_self, cond_true]; conv => whnf) | (refine br_intro ?_ ?_ <;> intro hb <;> (try simp only [brs] at hb) <;> conv => whnf) | (refine RegX.rule (id := 13) hT rfl [] oTClC49_13 (by decide +kernel) ?_; conv => whnf) | (refine RegX.rule (id := 17) hT rfl [] oTClC49_17 (by decide +kernel) ?_; conv => whnf) | omega | (refine And.intro ?_ ?_; ((try dsimp only); first | omega | (refine szA rfl ?_; omega) | (refine szB rfl ?_; omega) | (unfold inI64; omega) | exact rfl | (simp only [lns] at *; omega) | decide | (unfold inI64; decide)); conv => whnf) | decide | assumption)
      all_goals try (have q := ‹H (strK [DV.str (l.getD (i : Int).toNat pa0).plate]) = true›; rw [eh] at q; cases q)
      · have hg : (l.getD i pa0).gate ≠ g := hb
        exact ⟨(i + 1, H, v, M), ⟨by show i + 1 ≤ l.length; omega, hS, (hMI.pass hg).mono (by push_cast; omega) (fun _ _ _ => rfl)⟩, by show l.length - (i + 1) < l.length - i; omega, (by (refine Entails.mk' [(14, 14), (30, 30), (15, 15), (16, 16)] rfl rfl ?_ ?_ <;> repeat' (first | exact True.intro | exact lr | exact rr | exact SV.le_int (by omega) | exact SV.le_any _ | refine And.intro ?_ ?_)); done)⟩
      · refine LoopX.ent ?_ (tail (_, _, W) ⟨hS.add hW, hW, by assumption⟩)
        exact Entails.mk' [(14, 14), (30, 30), (15, 15), (16, 16), (18, 18)] rfl rfl ⟨lr, lr, lr, lr, lr, lr, lr, lr, lr, lr, lr, lr, trivial⟩ ⟨rr, rr, le_updV H v (l.getD (i : Int).toNat pa0).plate (wins W), rr, rr, trivial⟩
   case tail =>
    rintro ⟨H2, v2, W⟩ ⟨hS2, hW, hg⟩
    have hS2 : seenOk O h H2 v2 := hS2
    have hW : IsM (O (l.getD (i : Int).toNat pa0).plate) h W := hW
    have hg : (l.getD (i : Int).toNat pa0).gate = g := hg
    refine LoopX.rule hT (C := []) (ι := Nat × List Int) (fun (j, M) => j ≤ W.length ∧ MI k ((i : Int) * 2147483648 + j) (fun c => fitK O h l g i c + (cntW ((l.getD (i : Int).toNat pa0).tm - c) (W.take j) : Int)) M)
     (fun (j, M) => mkSt [(3, .d (.str g)), (4, .d (.int .i64 k)), (14, .ptr 14 0), (15, .mp 15), (16, .buf 16), (18, .ptr 18 0), (55, .d (pass l)), (56, .d (.int .i64 l.length)), (57, .d (.int .i64 i)), (84, .d (wins W)), (85, .d (.int .i64 W.length)), (86, .d (.int .i64 j))] [(14, .cells 137 [.mp 30, .d (hirs h)]), (30, mF O), (15, mV H2 v2), (16, seqB 3 1 iF 0 M), (18, .cells 106 ((paF (l.getD (i : Int).toNat pa0)).map .d))])
     (fun (j, _) => W.length - j) (0, M) ⟨Nat.zero_le _, (hMI.mono (by omega) (fun _ _ _ => rfl)).start⟩ ?_ ?_
    · exact Entails.mk' [(14, 14), (30, 30), (15, 15), (16, 16), (18, 18)] rfl rfl ⟨lr, lr, lr, lr, lr, lr, lr, lr, lr, lr, lr, lr, trivial⟩ ⟨rr, rr, rr, rr, rr, trivial⟩
    rintro ⟨j, M1⟩ ⟨q1, hM1⟩
    have q1 : j ≤ W.length := q1
    have hM1 : MI k ((i : Int) * 2147483648 + j) (fun c => fitK O h l g i c + (cntW ((l.getD (i : Int).toNat pa0).tm - c) (W.take j) : Int)) M1 := hM1
    have e2 : (j : Int).toNat = j := Int.toNat_natCast j
    have hml := hM1.len
    have hwl := hW.len
    rcases Nat.lt_or_ge j W.length with hj | hj
    · have w1 := hW.ok (W.getD (j : Int).toNat vw0) (getD_mem (by omega))
      have w2 := hW.bd (W.getD (j : Int).toNat vw0) (getD_mem (by omega))
      have hI1 : ∀ q, inI64 (M1.getD q 0 + 1) := fun q => by have := hM1.bd q; unfold inI64; omega
      have hI2 : ∀ q, inI64 (M1.getD q 0 - 1) := fun q => by have := hM1.bd q; unfold inI64; omega
      obtain ⟨lo, hlo⟩ : ∃ lo : Int, lo = (bif true then max ((l.getD (i : Int).toNat pa0).tm - (W.getD (j : Int).toNat vw0).2 + 1) (0 - (k : Int)) else min ((l.getD (i : Int).toNat pa0).tm - (W.getD (j : Int).toNat vw0).2 + 1) (0 - (k : Int))) := ⟨_, rfl⟩
      obtain ⟨hi2, hhi⟩ : ∃ x : Int, x = (bif false then max ((l.getD (i : Int).toNat pa0).tm - (W.getD (j : Int).toNat vw0).1) (k : Int) else min ((l.getD (i : Int).toNat pa0).tm - (W.getD (j : Int).toNat vw0).1) (k : Int)) := ⟨_, rfl⟩
      have hlo2 : lo = max ((l.getD (i : Int).toNat pa0).tm - (W.getD (j : Int).toNat vw0).2 + 1) (-(k : Int)) := by rw [hlo, cond_true]; omega
      have hhi2 : hi2 = min ((l.getD (i : Int).toNat pa0).tm - (W.getD (j : Int).toNat vw0).1) (k : Int) := by rw [hhi, cond_false]
      have hlo3 : lo = max ((l.getD (i : Int).toNat pa0).tm - (W.getD j vw0).2 + 1) (-(k : Int)) := by rw [hlo2, e2]
      have hhi3 : hi2 = min ((l.getD (i : Int).toNat pa0).tm - (W.getD j vw0).1) (k : Int) := by rw [hhi2, e2]
      conv => whnf
      repeat' (first | (refine br_intro ?_ ?_ <;> intro hb <;> (try simp only [brs] at hb) <;> conv => whnf) | (refine RegX.rule (id := 13) hT rfl [] oTClC49_13 (by decide +kernel) ?_; conv => whnf) | (refine RegX.rule (id := 17) hT rfl [] oTClC49_17 (by decide +kernel) ?_; conv => whnf) | omega | (refine And.intro ?_ ?_; ((try dsimp only); first | omega | (refine szA rfl ?_; omega) | (refine szB rfl ?_; omega) | (unfold inI64; omega) | exact rfl | (simp only [lns] at *; omega) | decide | (unfold inI64; decide)); conv => whnf) | decide | assumption)
      · have hb2 : lo ≤ hi2 := by rw [hlo, hhi]; exact hb
        have hne : Nat.beq (hi2 + (k : Int) + 1).toNat (lo + (k : Int)).toNat = false := Bool.eq_false_iff.2 fun q => by have := Nat.eq_of_beq_eq_true q; omega
        rw [← hlo, ← hhi]
        repeat' (first | (refine And.intro (hI1 _) ?_; conv => whnf) | (refine And.intro (hI2 _) ?_; conv => whnf) | (simp only [hne, cond_false]; conv => whnf) | (refine br_intro ?_ ?_ <;> intro hb <;> (try simp only [brs] at hb) <;> conv => whnf) | (refine RegX.rule (id := 13) hT rfl [] oTClC49_13 (by decide +kernel) ?_; conv => whnf) | (refine RegX.rule (id := 17) hT rfl [] oTClC49_17 (by decide +kernel) ?_; conv => whnf) | omega | (refine And.intro ?_ ?_; ((try dsimp only); first | omega | (refine szA rfl ?_; omega) | (refine szB rfl ?_; omega) | (unfold inI64; omega) | exact rfl | (simp only [lns] at *; omega) | decide | (unfold inI64; decide)); conv => whnf) | decide | assumption)
        have hM2 := hM1.win hj (by rw [← hlo3, ← hhi3]; exact hb2)
        rw [← hlo3, ← hhi3] at hM2
        refine ⟨(j + 1, (M1.set (lo + k).toNat (M1.getD (lo + k).toNat 0 + 1)).set (hi2 + k + 1).toNat (M1.getD (hi2 + k + 1).toNat 0 - 1)), ⟨by show j + 1 ≤ W.length; omega, hM2.mono (by push_cast; omega) (fun _ _ _ => rfl)⟩, by show W.length - (j + 1) < W.length - j; omega, Entails.mk' [(14, 14), (30, 30), (15, 15), (16, 16), (18, 18)] rfl rfl ⟨lr, lr, lr, lr, lr, lr, lr, lr, lr, lr, lr, lr, trivial⟩ ⟨rr, rr, rr, ?_, rr, trivial⟩⟩
        exact Res.le_put2 (fun _ => rfl) (fun _ => rfl)
      · have hM2 := hM1.skip hj (by rw [← hlo3, ← hhi3, hlo, hhi]; exact Int.not_le.2 hb)
        exact ⟨(j + 1, M1), ⟨by show j + 1 ≤ W.length; omega, hM2.mono (by push_cast; omega) (fun _ _ _ => rfl)⟩, by show W.length - (j + 1) < W.length - j; omega, (by (refine Entails.mk' [(14, 14), (30, 30), (15, 15), (16, 16), (18, 18)] rfl rfl ?_ ?_ <;> repeat' (first | exact True.intro | exact lr | exact rr | exact SV.le_int (by omega) | exact SV.le_any _ | refine And.intro ?_ ?_)); done)⟩
    · conv => whnf
      repeat' (first | (refine br_intro ?_ ?_ <;> intro hb <;> (try simp only [brs] at hb) <;> conv => whnf) | (refine RegX.rule (id := 13) hT rfl [] oTClC49_13 (by decide +kernel) ?_; conv => whnf) | (refine RegX.rule (id := 17) hT rfl [] oTClC49_17 (by decide +kernel) ?_; conv => whnf) | omega | (refine And.intro ?_ ?_; ((try dsimp only); first | omega | (refine szA rfl ?_; omega) | (refine szB rfl ?_; omega) | (unfold inI64; omega) | exact rfl | (simp only [lns] at *; omega) | decide | (unfold inI64; decide)); conv => whnf) | decide | assumption)
      all_goals try (exfalso; omega)
      have hB : (i : Int) * 2147483648 + j ≤ ((i + 1 : Nat) : Int) * 2147483648 := by push_cast; omega
      exact ⟨(i + 1, H2, v2, M1), ⟨by show i + 1 ≤ l.length; omega, hS2, MI.done2 E1 hO (by rw [e1] at hg; exact hg) (by rw [e1] at hW; exact hW) (by omega : j = W.length) hB (by rw [e1] at hM1; exact hM1)⟩, by show l.length - (i + 1) < l.length - i; omega, (by (refine Entails.mk' [(14, 14), (30, 30), (15, 15), (16, 16)] rfl rfl ?_ ?_ <;> repeat' (first | exact True.intro | exact lr | exact rr | exact SV.le_int (by omega) | exact SV.le_any _ | refine And.intro ?_ ?_)); done)⟩
 · have hil : i = l.length := by omega
   subst hil
   have hml := hMI.len
   conv => whnf
   repeat' (first | (refine br_intro ?_ ?_ <;> intro hb <;> (try simp only [brs] at hb) <;> conv => whnf) | (refine RegX.rule (id := 13) hT rfl [] oTClC49_13 (by decide +kernel) ?_; conv => whnf) | (refine RegX.rule (id := 17) hT rfl [] oTClC49_17 (by decide +kernel) ?_; conv => whnf) | omega | (refine And.intro ?_ ?_; ((try dsimp only); first | omega | (refine szA rfl ?_; omega) | (refine szB rfl ?_; omega) | (unfold inI64; omega) | exact rfl | (simp only [lns] at *; omega) | decide | (unfold inI64; decide)); conv => whnf) | decide | assumption)
   all_goals try (exfalso; omega)
   refine LoopX.rule hT (C := []) (ι := Nat × Int × Int) (fun (q, b, n) => q ≤ 2 * k + 1 ∧ ((q = 0 ∧ b = 0 ∧ n = -1) ∨ (0 < q ∧ bestIn (fitK O h l g l.length) (-(k : Int)) ((q : Int) - 1 - k) b ∧ n = fitK O h l g l.length b)))
    (fun (q, b, n) => mkSt [(4, .d (.int .i64 k)), (16, .buf 16), (25, .d (.int .i64 b)), (26, .d (.int .i64 n)), (27, .d (.int .i64 (M.take q).sum)), (28, .d (.int .i64 ((q : Int) - k)))] [(16, seqB 3 1 iF 0 M)])
    (fun (q, _) => 2 * k + 1 - q) (0, 0, -1) ⟨Nat.zero_le _, .inl ⟨rfl, rfl, rfl⟩⟩ ?_ ?_
   · exact Entails.mk' [(16, 16)] rfl rfl ⟨lr, lr, lr, lr, lr, SV.le_int (by omega), trivial⟩ ⟨rr, trivial⟩
   rintro ⟨q, b, n⟩ ⟨p2, hq⟩
   have p2 : q ≤ 2 * k + 1 := p2
   have hq : (q = 0 ∧ b = 0 ∧ n = -1) ∨ (0 < q ∧ bestIn (fitK O h l g l.length) (-(k : Int)) ((q : Int) - 1 - k) b ∧ n = fitK O h l g l.length b) := hq
   have hbb : -(k : Int) ≤ b ∧ b ≤ k := by
    rcases hq with ⟨_, rfl, _⟩ | ⟨_, h1, _⟩
    · omega
    · have := h1.1; omega
   have hsum : ∀ c : Nat, 1 ≤ c → c ≤ 2 * k + 1 → (M.take c).sum = fitK O h l g l.length ((c : Int) - 1 - k) := fun c c1 c2 => by
    have := hMI.sum ((c : Int) - 1 - k) (by omega) (by omega)
    rwa [show ((c : Int) - 1 - k + k + 1).toNat = c by omega] at this
   have hs0 : 0 ≤ (M.take q).sum ∧ (M.take q).sum ≤ 1000 := by
    rcases Nat.eq_zero_or_pos q with rfl | q1
    · simp
    · rw [hsum q q1 p2]
      have := fitK_bd O h l g ((q : Int) - 1 - k) l.length
      omega
   rcases Nat.lt_or_ge q (2 * k + 1) with hqk | hqk
   · have eq1 : ((q : Int) - k + k).toNat = q := by omega
     have hmq := hMI.bd ((q : Int) - k + k).toNat
     have hnx : (M.take q).sum + M.getD ((q : Int) - k + k).toNat 0 = fitK O h l g l.length ((q : Int) - k) := by
      rw [eq1, ← sum_snoc (by omega), hsum (q + 1) (by omega) (by omega)]
      congr 1
      push_cast; omega
     have hfb := fitK_bd O h l g ((q : Int) - k) l.length
     have hnb : -1 ≤ n ∧ n ≤ 1000 := by
      rcases hq with ⟨_, _, rfl⟩ | ⟨_, _, rfl⟩
      · omega
      · have := fitK_bd O h l g b l.length; omega
     have hsn : (M.take (q + 1)).sum = (M.take q).sum + M.getD ((q : Int) - k + k).toNat 0 := by rw [eq1]; exact sum_snoc (by omega)
     have hq1 : (((q + 1 : Nat) : Int) - 1 - k) = (q : Int) - k := by push_cast; omega
     have hyes : (n < fitK O h l g l.length ((q : Int) - k) ∨ (fitK O h l g l.length ((q : Int) - k) = n ∧ max ((q : Int) - k) (-((q : Int) - k)) < max b (-b))) → bestIn (fitK O h l g l.length) (-(k : Int)) ((q : Int) - k) ((q : Int) - k) := fun hc => by
      rcases hq with ⟨rfl, _, _⟩ | ⟨_, h1, h2⟩
      · rw [show ((0 : Nat) : Int) - (k : Int) = -(k : Int) by omega]; exact best_one _ _
      · refine best_scan (c := (q : Int) - k) (b := b) (by rw [show (q : Int) - k - 1 = (q : Int) - 1 - k by omega]; exact h1) _ ?_
        rw [if_pos (by rw [← h2]; exact hc)]
     have hno : ¬ (n < fitK O h l g l.length ((q : Int) - k) ∨ (fitK O h l g l.length ((q : Int) - k) = n ∧ max ((q : Int) - k) (-((q : Int) - k)) < max b (-b))) → bestIn (fitK O h l g l.length) (-(k : Int)) ((q : Int) - k) b ∧ n = fitK O h l g l.length b := fun hc => by
      rcases hq with ⟨_, _, rfl⟩ | ⟨_, h1, h2⟩
      · exact absurd (.inl (by omega)) hc
      · refine ⟨best_scan (c := (q : Int) - k) (b := b) (by rw [show (q : Int) - k - 1 = (q : Int) - 1 - k by omega]; exact h1) _ ?_, h2⟩
        rw [if_neg (by rw [← h2]; exact hc)]
     conv => whnf
     repeat' (first | (refine br_intro ?_ ?_ <;> intro hb <;> (try simp only [brs] at hb) <;> conv => whnf) | (refine RegX.rule (id := 13) hT rfl [] oTClC49_13 (by decide +kernel) ?_; conv => whnf) | (refine RegX.rule (id := 17) hT rfl [] oTClC49_17 (by decide +kernel) ?_; conv => whnf) | omega | (refine And.intro ?_ ?_; ((try dsimp only); first | omega | (refine szA rfl ?_; omega) | (refine szB rfl ?_; omega) | (unfold inI64; omega) | exact rfl | (simp only [lns] at *; omega) | decide | (unfold inI64; decide)); conv => whnf) | decide | assumption)
     all_goals try (exfalso; omega)
     all_goals try simp only [cond_true] at hb
     all_goals first
      | (have hy := hyes (by rw [← hnx]; omega)
         exact ⟨(q + 1, (q : Int) - k, (M.take q).sum + M.getD ((q : Int) - k + k).toNat 0), ⟨by show q + 1 ≤ 2 * k + 1; omega, .inr ⟨by show 0 < q + 1; omega, by rw [hq1]; exact hy, hnx⟩⟩, by show 2 * k + 1 - (q + 1) < 2 * k + 1 - q; omega,
          Entails.mk' [(16, 16)] rfl rfl ⟨lr, lr, lr, lr, SV.le_int hsn.symm, SV.le_int (by push_cast; omega), trivial⟩ ⟨rr, trivial⟩⟩)
      | (have hy := hno (by rw [← hnx]; omega)
         exact ⟨(q + 1, b, n), ⟨by show q + 1 ≤ 2 * k + 1; omega, .inr ⟨by show 0 < q + 1; omega, by rw [hq1]; exact hy.1, hy.2⟩⟩, by show 2 * k + 1 - (q + 1) < 2 * k + 1 - q; omega,
          Entails.mk' [(16, 16)] rfl rfl ⟨lr, lr, lr, lr, SV.le_int hsn.symm, SV.le_int (by push_cast; omega), trivial⟩ ⟨rr, trivial⟩⟩)
   · conv => whnf
     repeat' (first | (refine br_intro ?_ ?_ <;> intro hb <;> (try simp only [brs] at hb) <;> conv => whnf) | (refine RegX.rule (id := 13) hT rfl [] oTClC49_13 (by decide +kernel) ?_; conv => whnf) | (refine RegX.rule (id := 17) hT rfl [] oTClC49_17 (by decide +kernel) ?_; conv => whnf) | omega | (refine And.intro ?_ ?_; ((try dsimp only); first | omega | (refine szA rfl ?_; omega) | (refine szB rfl ?_; omega) | (unfold inI64; omega) | exact rfl | (simp only [lns] at *; omega) | decide | (unfold inI64; decide)); conv => whnf) | decide | assumption)
     all_goals try (exfalso; omega)
     refine .ret _ ?_
     conv => whnf
     refine ⟨[], ⟨⟨b, n, ?_, rfl⟩, rfl⟩, trivial⟩
     rw [if_neg (by simp)]
     rcases hq with ⟨h0, _, _⟩ | ⟨_, h1, h2⟩
     · omega
     · rw [show (q : Int) - 1 - k = k by omega, hO] at h1
       rw [hO] at h2
       exact ⟨h1, h2⟩
section
variable {v : List UInt8} {a b : Int} {l : List Hir}
end
theorem c125 (b : Bool) : FSpec Tryz.prog 125 [.d (.bool b)] [] (fun x r => x = .d (.int .i64 (if b = true then 1 else 0)) ∧ r = []) := by
 refine spec_of hT (C := []) Tryz.func125 rfl Tryz.call125 rfl rfl rfl ?_
 conv => whnf
 repeat' (first | (refine br_intro ?_ ?_ <;> intro hb <;> (try simp only [brs] at hb) <;> conv => whnf) | omega | (refine And.intro ?_ ?_; ((try dsimp only); first | omega | (refine szA rfl ?_; omega) | (refine szB rfl ?_; omega) | (unfold inI64; omega) | exact rfl | (simp only [lns] at *; omega) | decide | (unfold inI64; decide)); conv => whnf) | decide | assumption)
 all_goals
  refine .ret _ ?_
  conv => whnf
  refine ⟨[], ⟨?_, rfl⟩, trivial⟩
  conv => lhs; whnf
  simp [hb]
theorem own_iff {f : Flt} {h : List Hir} (E1 : fltE f = 0) (E2 : hirsE h = 0) {t : Int} (ht : 0 ≤ t ∧ t ≤ 5761439) (p : List UInt8) : ownR f.plt h p t ≠ [] ↔ 0 ≤ ownK ((hend f.plt).out p) h t := by
 rcases own_key E1 E2 (by omega : t < 5761440) p with ⟨a, b⟩ | ⟨a, _, b, _⟩
 · constructor
   · intro q; exact absurd b q
   · intro q; omega
 · exact ⟨fun _ => a, fun _ => b⟩
theorem own_out {f : Flt} {h : List Hir} (E1 : fltE f = 0) (hs : ∀ x ∈ h, lgSeq x.legs) {t : Int} (ht : ¬ (0 ≤ t ∧ t ≤ 5761439)) (p : List UInt8) : ¬ 0 ≤ ownK ((hend f.plt).out p) h t := by
 rw [← allW_own E1 p t, allW_hit]
 rintro ⟨w, _, _, y, hy, ho⟩
 unfold occ at ho
 rw [List.any_eq_true] at ho
 obtain ⟨g, hg, ho⟩ := ho
 have h1 := (hs y hy).1 g hg
 unfold onL at ho
 simp only [Bool.and_eq_true, decide_eq_true_eq] at ho
 omega
set_option maxHeartbeats 4000000 in
theorem c124 (f : Flt) (E1 : fltE f = 0) (h : List Hir) (hh : h.length ≤ 2^40) (hg : ∀ x ∈ h, x.legs.length ≤ 2^40) (E2 : hirsE h = 0) (l : List Pas) (E3 : formE l = 0) (g : List UInt8) (c : Int) (hc : -1440 ≤ c ∧ c ≤ 1440) :
 FSpec Tryz.prog 124 [.d (.int .i64 c), .ptr 1000007 0, .ptr 1000008 0, .ptr 1000005 0, .ptr 1000006 0] [(1000007, .cells 77 [.d (pass l)]), (1000008, .cells 9 [.d (.str g)]), (1000005, fltC f), (1000006, .cells 33 [.d (hirs h)])]
  (fun y r => y = .d (.int .i64 (fitK (hend f.plt).out h l g l.length c)) ∧ r = [(1000007, .cells 77 [.d (pass l)]), (1000008, .cells 9 [.d (.str g)]), (1000005, fltC f), (1000006, .cells 33 [.d (hirs h)])]) := by
 obtain ⟨hll, htm⟩ := form_zero E3
 obtain ⟨_, hpl⟩ := fltE_srt E1
 have hseq : ∀ x ∈ h, lgSeq x.legs := fun x hx => lgSeq_of ((hirs_seq E2).1 x hx)
 refine spec_of hT (C := []) Tryz.func124 rfl Tryz.call124 rfl rfl rfl ?_
 conv => whnf
 repeat' (first | (refine br_intro ?_ ?_ <;> intro hb <;> (try simp only [brs] at hb) <;> conv => whnf) | omega | (refine And.intro ?_ ?_; ((try dsimp only); first | omega | (refine szA rfl ?_; omega) | (refine szB rfl ?_; omega) | (unfold inI64; omega) | exact rfl | (simp only [lns] at *; omega) | decide | (unfold inI64; decide)); conv => whnf) | decide | assumption)
 refine LoopX.rule hT (C := []) (ι := Nat) (fun i => i ≤ l.length) (fun i => mkSt [(0, .d (.int .i64 c)), (2, .ptr 1000008 0), (3, .ptr 1000005 0), (4, .ptr 1000006 0), (7, .d (.int .i64 (fitK (hend f.plt).out h l g i c))), (12, .d (pass l)), (13, .d (.int .i64 l.length)), (14, .d (.int .i64 i))] [(1000007, .cells 77 [.d (pass l)]), (1000008, .cells 9 [.d (.str g)]), (1000005, fltC f), (1000006, .cells 33 [.d (hirs h)])]) (fun i => l.length - i) 0 (by omega) (by (refine Entails.mk' [(1000007, 1000007), (1000008, 1000008), (1000005, 1000005), (1000006, 1000006)] rfl rfl ?_ ?_ <;> repeat' (first | exact True.intro | exact lr | exact rr | exact SV.le_int (by omega) | exact SV.le_any _ | refine And.intro ?_ ?_)); done) ?_
 intro i p1
 have e1 : (i : Int).toNat = i := Int.toNat_natCast i
 have hfb := fitK_bd (hend f.plt).out h l g c i
 rcases Nat.lt_or_ge i l.length with hi | hi
 · have ht := htm (l.getD (i : Int).toNat pa0) (getD_mem (by omega))
   have hs : fitK (hend f.plt).out h l g (i + 1) c = fitK (hend f.plt).out h l g i c + (if (l.getD (i : Int).toNat pa0).gate = g ∧ 0 ≤ ownK ((hend f.plt).out (l.getD (i : Int).toNat pa0).plate) h ((l.getD (i : Int).toNat pa0).tm - c) then 1 else 0) := by rw [fitK, e1]
   conv => whnf
   repeat' (first | (refine CallX.exact (s133 _) rfl rfl ?_; rotate_right; conv => whnf) | (refine CallX.exact (z46 f hpl h hh hseq hg _ _) rfl rfl ?_; rotate_right; conv => whnf) | (refine CallX.exact (c125 _) rfl rfl ?_; rotate_right; conv => whnf) | (refine br_intro ?_ ?_ <;> intro hb <;> (try simp only [brs] at hb) <;> conv => whnf) | omega | (refine And.intro ?_ ?_; ((try dsimp only); first | omega | (refine szA rfl ?_; omega) | (refine szB rfl ?_; omega) | (unfold inI64; omega) | exact rfl | (simp only [lns] at *; omega) | decide | (unfold inI64; decide)); conv => whnf) | decide | assumption)
   all_goals try (exfalso; omega)
   · have ho := own_iff E1 E2 (t := (l.getD (i : Int).toNat pa0).tm - c) hb (l.getD (i : Int).toNat pa0).plate
     have hgt : (l.getD (i : Int).toNat pa0).gate = g := by assumption
     refine ⟨i + 1, by omega, by omega, Entails.mk' [(1000007, 1000007), (1000008, 1000008), (1000005, 1000005), (1000006, 1000006)] rfl rfl ⟨lr, lr, lr, lr, SV.le_int ?_, lr, lr, lr, trivial⟩ ⟨rr, rr, rr, rr, trivial⟩⟩
     rw [hs]
     generalize ownR f.plt h (l.getD (i : Int).toNat pa0).plate ((l.getD (i : Int).toNat pa0).tm - c) = R at ho ⊢
     cases R with
     | nil =>
       have e : (if (l.getD (i : Int).toNat pa0).gate = g ∧ 0 ≤ ownK ((hend f.plt).out (l.getD (i : Int).toNat pa0).plate) h ((l.getD (i : Int).toNat pa0).tm - c) then (1 : Int) else 0) = 0 := if_neg (fun z => ho.2 z.2 rfl)
       rw [e]; rfl
     | cons x xs =>
       have e : (if (l.getD (i : Int).toNat pa0).gate = g ∧ 0 ≤ ownK ((hend f.plt).out (l.getD (i : Int).toNat pa0).plate) h ((l.getD (i : Int).toNat pa0).tm - c) then (1 : Int) else 0) = 1 := if_pos ⟨hgt, ho.1 (by simp)⟩
       rw [e]; rfl
   · have hb2 : 0 ≤ (l.getD (i : Int).toNat pa0).tm - c → 5761439 < (l.getD (i : Int).toNat pa0).tm - c := hb
     have ho := own_out E1 hseq (t := (l.getD (i : Int).toNat pa0).tm - c) (by omega) (l.getD (i : Int).toNat pa0).plate
     exact ⟨i + 1, by omega, by omega, Entails.mk' [(1000007, 1000007), (1000008, 1000008), (1000005, 1000005), (1000006, 1000006)] rfl rfl ⟨lr, lr, lr, lr, SV.le_int (by rw [hs, if_neg (fun z => ho z.2)]; omega), lr, lr, lr, trivial⟩ ⟨rr, rr, rr, rr, trivial⟩⟩
   · have hgt : ¬ (l.getD (i : Int).toNat pa0).gate = g := hb
     exact ⟨i + 1, by omega, by omega, Entails.mk' [(1000007, 1000007), (1000008, 1000008), (1000005, 1000005), (1000006, 1000006)] rfl rfl ⟨lr, lr, lr, lr, SV.le_int (by rw [hs, if_neg (fun z => hgt z.1)]; omega), lr, lr, lr, trivial⟩ ⟨rr, rr, rr, rr, trivial⟩⟩
 · have hil : i = l.length := by omega
   subst hil
   conv => whnf
   repeat' (first | (refine br_intro ?_ ?_ <;> intro hb <;> (try simp only [brs] at hb) <;> conv => whnf) | omega | (refine And.intro ?_ ?_; ((try dsimp only); first | omega | (refine szA rfl ?_; omega) | (refine szB rfl ?_; omega) | (unfold inI64; omega) | exact rfl | (simp only [lns] at *; omega) | decide | (unfold inI64; decide)); conv => whnf) | decide | assumption)
   all_goals try (exfalso; omega)
   refine .ret _ ?_
   conv => whnf
   exact ⟨[(1000007, .cells 77 [.d (pass l)]), (1000008, .cells 9 [.d (.str g)]), (1000005, fltC f), (1000006, .cells 33 [.d (hirs h)])], ⟨rfl, rfl⟩, rr, rr, rr, rr, trivial⟩
set_option maxHeartbeats 4000000 in
theorem c51 (f : Flt) (E1 : fltE f = 0) (h : List Hir) (hh : h.length ≤ 2^40) (hg : ∀ x ∈ h, x.legs.length ≤ 2^40) (E2 : hirsE h = 0) (l : List Pas) (E3 : formE l = 0) (g : List UInt8) (m : Int) (hm : 0 ≤ m ∧ m ≤ 1440) :
 FSpec Tryz.prog 51 [flt f, .d (hirs h), .d (pass l), .d (.str g), .d (.int .i64 m)] [] (fun y r => (∃ b, bestIn (fitK (hend f.plt).out h l g l.length) (-m) m b ∧ y = .tup [.d (.int .i64 b), .d (.int .i64 (fitK (hend f.plt).out h l g l.length b))]) ∧ r = []) := by
 obtain ⟨k, rfl⟩ : ∃ k : Nat, m = k := ⟨m.toNat, by omega⟩
 refine spec_of hT (C := []) Tryz.func51 rfl Tryz.call51 rfl rfl rfl ?_
 conv => whnf
 repeat' (first | (refine CallX.of (c124 f E1 h hh hg E2 l E3 g 0 (by omega)) [(1000007, 7), (1000008, 8), (1000005, 5), (1000006, 6)] rfl ⟨lr, lr, lr, lr, lr, trivial⟩ ⟨rr, rr, rr, rr, trivial⟩ rfl rfl ?_; rintro x rout ⟨rfl, rfl⟩; refine ⟨rfl, ?_⟩; conv => whnf) | (refine br_intro ?_ ?_ <;> intro hb <;> (try simp only [brs] at hb) <;> conv => whnf) | omega | (refine And.intro ?_ ?_; ((try dsimp only); first | omega | (refine szA rfl ?_; omega) | (refine szB rfl ?_; omega) | (unfold inI64; omega) | exact rfl | (simp only [lns] at *; omega) | decide | (unfold inI64; decide)); conv => whnf) | decide | assumption)
 obtain ⟨F, hF⟩ : ∃ F, F = fitK (hend f.plt).out h l g l.length := ⟨_, rfl⟩
 rw [← hF]
 refine LoopX.rule hT (C := []) (ι := Nat × Int) (fun (q, b) => (1 ≤ q ∧ q ≤ k + 1) ∧ bestIn F (-((q : Int) - 1)) ((q : Int) - 1) b) (fun (q, b) => mkSt [(4, .d (.int .i64 k)), (12, .fn 124 [.ptr 7 0, .ptr 8 0, .ptr 5 0, .ptr 6 0]), (13, .d (.int .i64 b)), (14, .d (.int .i64 (F b))), (15, .d (.int .i64 q))] [(7, .cells 77 [.d (pass l)]), (8, .cells 9 [.d (.str g)]), (5, fltC f), (6, .cells 33 [.d (hirs h)])])
  (fun (q, _) => k + 1 - q) (1, 0) ⟨⟨Nat.le_refl _, by omega⟩, best_one F 0⟩ ?_ ?_
 · exact Entails.mk' [(7, 7), (8, 8), (5, 5), (6, 6)] rfl rfl ⟨lr, lr, lr, SV.le_int (by rw [hF]), lr, trivial⟩ ⟨rr, rr, rr, rr, trivial⟩
 rintro ⟨q, b⟩ ⟨⟨q1, q2⟩, hB⟩
 have q1 : 1 ≤ q := q1
 have q2 : q ≤ k + 1 := q2
 have hB : bestIn F (-((q : Int) - 1)) ((q : Int) - 1) b := hB
 rcases Nat.lt_or_ge q (k + 1) with hq | hq
 · conv => whnf
   repeat' (first | (refine br_intro ?_ ?_ <;> intro hb <;> (try simp only [brs] at hb) <;> conv => whnf) | omega | (refine And.intro ?_ ?_; ((try dsimp only); first | omega | (refine szA rfl ?_; omega) | (refine szB rfl ?_; omega) | (unfold inI64; omega) | exact rfl | (simp only [lns] at *; omega) | decide | (unfold inI64; decide)); conv => whnf) | decide | assumption)
   all_goals try (exfalso; omega)
   refine LoopX.rule hT (C := []) (ι := Nat × Int) (fun (j, b) => j ≤ 2 ∧ (j = 0 → bestIn F (-((q : Int) - 1)) ((q : Int) - 1) b) ∧ (j = 1 → bestIn F (-(q : Int)) ((q : Int) - 1) b) ∧ (j = 2 → bestIn F (-(q : Int)) (q : Int) b)) (fun (j, b) => mkSt [(4, .d (.int .i64 k)), (12, .fn 124 [.ptr 7 0, .ptr 8 0, .ptr 5 0, .ptr 6 0]), (13, .d (.int .i64 b)), (14, .d (.int .i64 (F b))), (15, .d (.int .i64 q)), (30, .d (ints [0 - (q : Int), (q : Int)])), (31, .d (.int .i64 2)), (32, .d (.int .i64 j))] [(7, .cells 77 [.d (pass l)]), (8, .cells 9 [.d (.str g)]), (5, fltC f), (6, .cells 33 [.d (hirs h)])])
    (fun (j, _) => 2 - j) (0, b) ⟨by omega, fun _ => hB, fun z => (nomatch z), fun z => (nomatch z)⟩ ?_ ?_
   · exact Entails.mk' [(7, 7), (8, 8), (5, 5), (6, 6)] rfl rfl ⟨lr, lr, lr, lr, lr, SV.le_lit (by rfl) (by rfl), lr, lr, trivial⟩ ⟨rr, rr, rr, rr, trivial⟩
   rintro ⟨j, b⟩ ⟨j1, h0, h1, h2⟩
   have j1 : j ≤ 2 := j1
   have h0 : j = 0 → bestIn F (-((q : Int) - 1)) ((q : Int) - 1) b := h0
   have h1 : j = 1 → bestIn F (-(q : Int)) ((q : Int) - 1) b := h1
   have h2 : j = 2 → bestIn F (-(q : Int)) (q : Int) b := h2
   match j, j1, h0, h1, h2 with
   | 0, _, h0, _, _ =>
     have hdn := best_dn (k := (q : Int) - 1) (b := b) (h0 rfl)
     have eq0 : -((q : Int) - 1 + 1) = 0 - (q : Int) := by omega
     have eq2 : 0 - (q : Int) = -(q : Int) := by omega
     rw [eq0] at hdn
     conv => whnf
     repeat' (first | (refine CallX.of (c124 f E1 h hh hg E2 l E3 g (0 - (q : Int)) (by omega)) [(1000007, 7), (1000008, 8), (1000005, 5), (1000006, 6)] rfl ⟨lr, lr, lr, lr, lr, trivial⟩ ⟨rr, rr, rr, rr, trivial⟩ rfl rfl ?_; rintro x rout ⟨rfl, rfl⟩; refine ⟨rfl, ?_⟩; conv => whnf) | (refine br_intro ?_ ?_ <;> intro hb <;> (try simp only [brs] at hb) <;> conv => whnf) | omega | (refine And.intro ?_ ?_; ((try dsimp only); first | omega | (refine szA rfl ?_; omega) | (refine szB rfl ?_; omega) | (unfold inI64; omega) | exact rfl | (simp only [lns] at *; omega) | decide | (unfold inI64; decide)); conv => whnf) | decide | assumption)
     all_goals try (exfalso; omega)
     · rw [← hF] at hb
       rw [if_pos hb] at hdn
       exact ⟨(1, 0 - (q : Int)), ⟨by show 1 ≤ 2; omega, (fun z => nomatch z), (fun _ => by rw [← eq2]; exact hdn), (fun z => nomatch z)⟩, by show 2 - 1 < 2 - 0; omega, Entails.mk' [(7, 7), (8, 8), (5, 5), (6, 6)] rfl rfl ⟨lr, lr, lr, SV.le_int (by rw [hF]), lr, lr, lr, lr, trivial⟩ ⟨rr, rr, rr, rr, trivial⟩⟩
     · rw [← hF] at hb
       rw [if_neg (by omega)] at hdn
       exact ⟨(1, b), ⟨by show 1 ≤ 2; omega, (fun z => nomatch z), (fun _ => by rw [← eq2]; exact hdn), (fun z => nomatch z)⟩, by show 2 - 1 < 2 - 0; omega, Entails.mk' [(7, 7), (8, 8), (5, 5), (6, 6)] rfl rfl ⟨lr, lr, lr, lr, lr, lr, lr, lr, trivial⟩ ⟨rr, rr, rr, rr, trivial⟩⟩
   | 1, _, _, h1, _ =>
     have eq1 : -((q : Int) - 1 + 1) = -(q : Int) := by omega
     have eq2 : (q : Int) - 1 + 1 = (q : Int) := by omega
     have hup := best_up (k := (q : Int) - 1) (b := b) (by rw [eq1]; exact h1 rfl)
     rw [eq1, eq2] at hup
     conv => whnf
     repeat' (first | (refine CallX.of (c124 f E1 h hh hg E2 l E3 g ((q : Int)) (by omega)) [(1000007, 7), (1000008, 8), (1000005, 5), (1000006, 6)] rfl ⟨lr, lr, lr, lr, lr, trivial⟩ ⟨rr, rr, rr, rr, trivial⟩ rfl rfl ?_; rintro x rout ⟨rfl, rfl⟩; refine ⟨rfl, ?_⟩; conv => whnf) | (refine br_intro ?_ ?_ <;> intro hb <;> (try simp only [brs] at hb) <;> conv => whnf) | omega | (refine And.intro ?_ ?_; ((try dsimp only); first | omega | (refine szA rfl ?_; omega) | (refine szB rfl ?_; omega) | (unfold inI64; omega) | exact rfl | (simp only [lns] at *; omega) | decide | (unfold inI64; decide)); conv => whnf) | decide | assumption)
     all_goals try (exfalso; omega)
     · rw [← hF] at hb
       rw [if_pos hb] at hup
       exact ⟨(2, (q : Int)), ⟨by show 2 ≤ 2; omega, (fun z => nomatch z), (fun z => nomatch z), (fun _ => hup)⟩, by show 2 - 2 < 2 - 1; omega, Entails.mk' [(7, 7), (8, 8), (5, 5), (6, 6)] rfl rfl ⟨lr, lr, lr, SV.le_int (by rw [hF]), lr, lr, lr, lr, trivial⟩ ⟨rr, rr, rr, rr, trivial⟩⟩
     · rw [← hF] at hb
       rw [if_neg (by omega)] at hup
       exact ⟨(2, b), ⟨by show 2 ≤ 2; omega, (fun z => nomatch z), (fun z => nomatch z), (fun _ => hup)⟩, by show 2 - 2 < 2 - 1; omega, Entails.mk' [(7, 7), (8, 8), (5, 5), (6, 6)] rfl rfl ⟨lr, lr, lr, lr, lr, lr, lr, lr, trivial⟩ ⟨rr, rr, rr, rr, trivial⟩⟩
   | 2, _, _, _, h2 =>
     have hB2 := h2 rfl
     conv => whnf
     repeat' (first | (refine br_intro ?_ ?_ <;> intro hb <;> (try simp only [brs] at hb) <;> conv => whnf) | omega | (refine And.intro ?_ ?_; ((try dsimp only); first | omega | (refine szA rfl ?_; omega) | (refine szB rfl ?_; omega) | (unfold inI64; omega) | exact rfl | (simp only [lns] at *; omega) | decide | (unfold inI64; decide)); conv => whnf) | decide | assumption)
     all_goals try (exfalso; omega)
     exact ⟨(q + 1, b), ⟨⟨by show 1 ≤ q + 1; omega, by show q + 1 ≤ k + 1; omega⟩, by show bestIn F (-(((q + 1 : Nat) : Int) - 1)) (((q + 1 : Nat) : Int) - 1) b; rw [show ((q + 1 : Nat) : Int) - 1 = (q : Int) by push_cast; omega]; exact hB2⟩, by show k + 1 - (q + 1) < k + 1 - q; omega, Entails.mk' [(7, 7), (8, 8), (5, 5), (6, 6)] rfl rfl ⟨lr, lr, lr, lr, lr, trivial⟩ ⟨rr, rr, rr, rr, trivial⟩⟩
 · have hqe : q = k + 1 := by omega
   rw [hqe, show ((k + 1 : Nat) : Int) - 1 = (k : Int) by push_cast; omega] at hB
   conv => whnf
   repeat' (first | (refine br_intro ?_ ?_ <;> intro hb <;> (try simp only [brs] at hb) <;> conv => whnf) | omega | (refine And.intro ?_ ?_; ((try dsimp only); first | omega | (refine szA rfl ?_; omega) | (refine szB rfl ?_; omega) | (unfold inI64; omega) | exact rfl | (simp only [lns] at *; omega) | decide | (unfold inI64; decide)); conv => whnf) | decide | assumption)
   all_goals try (exfalso; omega)
   refine .ret _ ?_
   conv => whnf
   exact ⟨[], ⟨⟨b, hB, rfl⟩, rfl⟩, trivial⟩
theorem pk8 {x : Int} (h : x ∈ [0, 1, 5, 10, 60, -1, 1441]) : -1 ≤ x ∧ x ≤ 1441 := by
 simp at h; omega
set_option maxHeartbeats 8000000 in
theorem z6 (n : Nat) (L : Nat → Int) (hn : n ≤ maxLen) (hl : ∀ i, -2^63 ≤ L i ∧ L i < 2^63) : FSpec Tryz.prog 6 [.d (.ro 1 n fun i => [.int .i64 (L i)])] [] (fun x r => x = .d (.bool true) ∧ r = []) := by
 have hL : Rok n L := ⟨hn, hl⟩
 refine spec_of hT (C := []) Tryz.func6 rfl Tryz.call6 rfl rfl rfl ?_
 conv => whnf
 repeat' (first | (refine CallX.of (sFlt n L hL _ ?_ ?_) [(1000000, 17)] rfl ⟨lr, trivial⟩ ⟨rr, trivial⟩ rfl rfl ?_; rotate_right; rintro xx rout ⟨⟨f, hf, rfl⟩, ⟨c, c1, c2, rfl⟩⟩; refine ⟨rfl, ?_⟩; conv => whnf) | (refine CallX.of (s64 n L hL _ ?_ ?_ 0 3 ?_ ?_ ?_ ?_) [(1000000, 17)] rfl ⟨lr, lr, lr, trivial⟩ ⟨rr, trivial⟩ rfl rfl ?_; rotate_right; rintro x rout ⟨⟨m, hm0, hm1, rfl⟩, ⟨c, c1, c2, rfl⟩⟩; refine ⟨rfl, ?_⟩; conv => whnf) | (refine CallX.of (sHirs n L hL _ ?_ ?_ m ?_ ?_) [(1000000, 17)] rfl ⟨lr, lr, trivial⟩ ⟨rr, trivial⟩ rfl rfl ?_; rotate_right; rintro xx rout ⟨⟨h, hl5, rfl⟩, ⟨c, c5, c6, rfl⟩⟩; refine ⟨rfl, ?_⟩; conv => whnf) | (refine CallX.of (s64 n L hL _ ?_ ?_ 0 6 ?_ ?_ ?_ ?_) [(1000000, 17)] rfl ⟨lr, lr, lr, trivial⟩ ⟨rr, trivial⟩ rfl rfl ?_; rotate_right; rintro x rout ⟨⟨m2, hm3, hm4, rfl⟩, ⟨c, c1, c2, rfl⟩⟩; refine ⟨rfl, ?_⟩; conv => whnf) | (refine CallX.of (s63 n L hL _ ?_ ?_ m2 ?_ ?_) [(1000000, 17)] rfl ⟨lr, lr, trivial⟩ ⟨rr, trivial⟩ rfl rfl ?_; rotate_right; rintro xx rout ⟨⟨x, hx, rfl⟩, ⟨c, c9, c10, rfl⟩⟩; refine ⟨rfl, ?_⟩; conv => whnf) | (refine CallX.of (s15 n L hL _ ?_ ?_ [[103, 49], [103, 49], [103, 50], [110, 111, 110, 101], []] ?_ ?_) [(1000000, 17)] rfl ⟨lr, SV.le_lit rfl rfl, trivial⟩ ⟨rr, trivial⟩ rfl rfl ?_; rotate_right; rintro x rout ⟨⟨g, hg, rfl⟩, ⟨c, c1, c2, rfl⟩⟩; refine ⟨rfl, ?_⟩; conv => whnf) | (refine CallX.of (s33 n L hL _ ?_ ?_ [0, 1, 5, 10, 60, -1, 1441] ?_ ?_) [(1000000, 17)] rfl ⟨lr, SV.le_lit rfl rfl, trivial⟩ ⟨rr, trivial⟩ rfl rfl ?_; rotate_right; rintro x rout ⟨⟨t, ht, rfl⟩, ⟨c, c1, c2, rfl⟩⟩; refine ⟨rfl, ?_⟩; conv => whnf) | (refine br_intro ?_ ?_ <;> intro hb <;> (try simp only [brs] at hb) <;> conv => whnf) | omega | (refine And.intro ?_ ?_; ((try dsimp only); first | omega | (refine szA rfl ?_; omega) | (refine szB rfl ?_; omega) | (unfold inI64; omega) | exact rfl | (simp only [lns] at *; omega) | decide | (unfold inI64; decide)); conv => whnf) | decide | assumption)
 have hok : hiOk h := ⟨by have := hl5.1; omega, fun y hy => hiB_K (hl5.2 y hy) (by omega)⟩
 have hhl : h.length ≤ 1024 := by have := hl5.1; omega
 have hlg : ∀ y ∈ h, y.legs.length ≤ 1024 := fun y hy => by have := (hl5.2 y hy).2.2.1; omega
 have hxk : pOk x := ⟨by have := hx.1; omega, fun y hy => ⟨by have := (hx.2 y hy).1; omega, by have := (hx.2 y hy).2.1; omega⟩⟩
 have hgl := mem_len' hg (by decide)
 have ht2 := pk8 ht
 have C49 := c49 f hf.ok h hok hhl hlg x hxk g (by omega) t (by omega)
 have C21 := z21 f hf.ok
 have C22 := z81 h hok
 have C50 := s131 x hxk
 have hE : ∀ e : Int, (e = if (!decide (0 ≤ t ∧ t ≤ 1440)) = true then 1 else 0) → firstE [fltE f, hirsE h, formE x, if (!isKeyB g) = true then 5 else 0, e] = clkE f h x g t := by rintro e rfl; rfl
 by_cases E : clkE f h x g t = 0
 · obtain ⟨E1, E2, E3, t1, t2⟩ := clkE_zero E
   have C51 := c51 f E1 h (by omega) (fun y hy => by have := hlg y hy; omega) E2 x E3 g t ⟨t1, t2⟩
   rw [E] at C49
   have CE := s17 [fltE f, hirsE h, formE x, if (!isKeyB g) = true then 5 else 0, if decide (1440 < t) = true then 1 else 0] (by simp)
   rw [hE _ (by simp; omega), E] at CE
   repeat' (first | (refine CallX.of C49 [] rfl ⟨lr, lr, lr, lr, lr, trivial⟩ trivial rfl rfl ?_; rintro y rout ⟨⟨b, cn, hbn, rfl⟩, rfl⟩; rw [if_neg (by simp)] at hbn; obtain ⟨hb1, rfl⟩ := hbn; refine ⟨rfl, ?_⟩; conv => whnf) | (refine CallX.exact (C21) rfl rfl ?_; rotate_right; conv => whnf) | (refine CallX.exact (C22) rfl rfl ?_; rotate_right; conv => whnf) | (refine CallX.exact (C50) rfl rfl ?_; rotate_right; conv => whnf) | (refine CallX.exact (s21 g (by omega)) rfl rfl ?_; rotate_right; conv => whnf) | (refine CallX.exact (s20 _ _) rfl rfl ?_; rotate_right; conv => whnf) | (refine CallX.pure CE ⟨SV.le_lit (by rfl) (by rfl), trivial⟩ rfl ?_; conv => whnf) | (refine CallX.of C51 [] rfl ⟨lr, lr, lr, lr, lr, trivial⟩ trivial rfl rfl ?_; rintro y rout ⟨⟨b2, hb2, rfl⟩, rfl⟩; obtain rfl := best_uniq hb1 hb2; refine ⟨rfl, ?_⟩; conv => whnf) | (refine CallX.exact (s24) rfl rfl ?_; rotate_right; conv => whnf) | (refine br_intro ?_ ?_ <;> intro hb <;> (try simp only [brs] at hb) <;> conv => whnf) | omega | (refine And.intro ?_ ?_; ((try dsimp only); first | omega | (refine szA rfl ?_; omega) | (refine szB rfl ?_; omega) | (unfold inI64; omega) | exact rfl | (simp only [lns] at *; omega) | decide | (unfold inI64; decide)); conv => whnf) | decide | assumption)
   refine .ret _ ?_
   conv => whnf
   refine ⟨[], ⟨?_, rfl⟩, trivial⟩
   conv => lhs; whnf
 · generalize hee : clkE f h x g t = e at C49 E hE
   by_cases t0 : 0 ≤ t
   · have CE := s17 [fltE f, hirsE h, formE x, if (!isKeyB g) = true then 5 else 0, if decide (1440 < t) = true then 1 else 0] (by simp)
     rw [hE _ (by simp; omega)] at CE
     repeat' (first | (refine CallX.of C49 [] rfl ⟨lr, lr, lr, lr, lr, trivial⟩ trivial rfl rfl ?_; rintro y rout ⟨⟨b, cn, hbn, rfl⟩, rfl⟩; rw [if_pos E] at hbn; obtain ⟨rfl, rfl⟩ := hbn; refine ⟨rfl, ?_⟩; conv => whnf) | (refine CallX.exact (C21) rfl rfl ?_; rotate_right; conv => whnf) | (refine CallX.exact (C22) rfl rfl ?_; rotate_right; conv => whnf) | (refine CallX.exact (C50) rfl rfl ?_; rotate_right; conv => whnf) | (refine CallX.exact (s21 g (by omega)) rfl rfl ?_; rotate_right; conv => whnf) | (refine CallX.exact (s20 _ _) rfl rfl ?_; rotate_right; conv => whnf) | (refine CallX.pure CE ⟨SV.le_lit (by rfl) (by rfl), trivial⟩ rfl ?_; conv => whnf) | (refine CallX.exact (s24) rfl rfl ?_; rotate_right; conv => whnf) | (refine br_intro ?_ ?_ <;> intro hb <;> (try simp only [brs] at hb) <;> conv => whnf) | omega | (refine And.intro ?_ ?_; ((try dsimp only); first | omega | (refine szA rfl ?_; omega) | (refine szB rfl ?_; omega) | (unfold inI64; omega) | exact rfl | (simp only [lns] at *; omega) | decide | (unfold inI64; decide)); conv => whnf) | decide | assumption)
     refine .ret _ ?_
     conv => whnf
     refine ⟨[], ⟨?_, rfl⟩, trivial⟩
     conv => lhs; whnf
   · have CE := s17 [fltE f, hirsE h, formE x, if (!isKeyB g) = true then 5 else 0, if true = true then 1 else 0] (by simp)
     rw [hE _ (by simp; omega)] at CE
     repeat' (first | (refine CallX.of C49 [] rfl ⟨lr, lr, lr, lr, lr, trivial⟩ trivial rfl rfl ?_; rintro y rout ⟨⟨b, cn, hbn, rfl⟩, rfl⟩; rw [if_pos E] at hbn; obtain ⟨rfl, rfl⟩ := hbn; refine ⟨rfl, ?_⟩; conv => whnf) | (refine CallX.exact (C21) rfl rfl ?_; rotate_right; conv => whnf) | (refine CallX.exact (C22) rfl rfl ?_; rotate_right; conv => whnf) | (refine CallX.exact (C50) rfl rfl ?_; rotate_right; conv => whnf) | (refine CallX.exact (s21 g (by omega)) rfl rfl ?_; rotate_right; conv => whnf) | (refine CallX.exact (s20 _ _) rfl rfl ?_; rotate_right; conv => whnf) | (refine CallX.pure CE ⟨SV.le_lit (by rfl) (by rfl), trivial⟩ rfl ?_; conv => whnf) | (refine CallX.exact (s24) rfl rfl ?_; rotate_right; conv => whnf) | (refine br_intro ?_ ?_ <;> intro hb <;> (try simp only [brs] at hb) <;> conv => whnf) | omega | (refine And.intro ?_ ?_; ((try dsimp only); first | omega | (refine szA rfl ?_; omega) | (refine szB rfl ?_; omega) | (unfold inI64; omega) | exact rfl | (simp only [lns] at *; omega) | decide | (unfold inI64; decide)); conv => whnf) | decide | assumption)
     refine .ret _ ?_
     conv => whnf
     refine ⟨[], ⟨?_, rfl⟩, trivial⟩
     conv => lhs; whnf
end Go.Proofs.YtcjfniddeibbhaaGreatDoor
