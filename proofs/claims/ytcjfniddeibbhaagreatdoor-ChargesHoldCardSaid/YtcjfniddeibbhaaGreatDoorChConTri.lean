/- ChargesHold is proved: for every input the law returns true, and its argument reads afterwards as it read before. Conditions: those of the given row alone. -/
import Derived.Test.YtcjfniddeibbhaaGreatDoorChConTwo
import Derived.Test.YtcjfniddeibbhaaGreatDoorChConOne
import Derived.Shelf.Small.Strs
import Derived.Test.YtcjfniddeibbhaaGreatDoorProg
import Derived.Test.YtcjfniddeibbhaaGreatDoorChEngTwo
import Derived.Sort.OwnSortedInts
import Derived.Shelf.Sort.Plain
set_option linter.unusedVariables false
set_option linter.unusedSimpArgs false
set_option maxRecDepth 20000
namespace Go.Proofs.YtcjfniddeibbhaaGreatDoor
open Go Go.Eng
def oTFlG174_8 : List (Nat × List Nat) := [(0, []), (1, []), (2, []), (3, []), (4, []), (5, [3, 4]), (6, [3, 4, 5]), (7, [3, 4, 5]), (8, [3, 4]), (9, [3, 4]), (10, [3, 4]), (11, []), (12, []), (13, [])]
def okW (s : Sta) (k : Nat) : Bool := decide ((0 ≤ s.h (2 * k) ∧ s.h (2 * k) ≤ s.h (2 * k + 1)) ∧ s.h (2 * k + 1) ≤ 1440)
def hrs (s : Sta) : Bool := (List.range 7).all (okW s)
theorem hrs_yes {s : Sta} (h : ∀ j, j < 7 → okW s j = true) : hrs s = true := by
 unfold hrs; rw [List.all_eq_true]; intro j hj; exact h j (List.mem_range.1 hj)
theorem hrs_no {s : Sta} {j : Nat} (hj : j < 7) (h : okW s j = false) : hrs s = false := by
 unfold hrs; rw [List.all_eq_false]; exact ⟨j, List.mem_range.2 hj, by simp [h]⟩
def stnE (l : List Sta) (i : Nat) : Int :=
 if isKeyB (l.getD i sta0).key = false then 5 else if 0 < i ∧ strLe (l.getD i sta0).key (l.getD (i - 1) sta0).key = true then 7 else if hrs (l.getD i sta0) = false then 1 else 0
def stasE (l : List Sta) : Int := if 50 < l.length then 2 else firstAt (stnE l) l.length
def stasOk (l : List Sta) : Prop := l.length ≤ 2^20 ∧ ∀ c ∈ l, c.key.length ≤ 2^40
set_option maxHeartbeats 4000000 in
theorem z174 (l : List Sta) (hk : stasOk l) : FSpec Tryz.prog 174 [.d (stas l)] [] (fun x r => x = .d (.int .i64 (stasE l)) ∧ r = []) := by
 have hlen := hk.1
 refine spec_of hT (C := []) Tryz.func174 rfl Tryz.call174 rfl rfl rfl ?_
 conv => whnf
 refine br_intro (fun h0 => ?_) (fun h0 => ?_)
 · simp at h0
   conv => whnf
   refine .ret _ ?_
   conv => whnf
   refine ⟨[], ⟨?_, rfl⟩, trivial⟩
   conv => lhs; whnf
   unfold stasE; rw [if_pos (by omega)]
 simp at h0
 conv => whnf
 refine LoopX.rule hT (C := []) (ι := Nat) (fun i => i ≤ l.length ∧ ∀ j, j < i → stnE l j = 0) (fun i => mkSt [(0, .d (stas l)), (10, .d (stas l)), (11, .d (.int .i64 l.length)), (12, .d (.int .i64 i))] []) (fun i => l.length - i) 0 ⟨by omega, by omega⟩ (by (refine Entails.mk' [] rfl rfl ?_ ?_ <;> repeat' (first | exact True.intro | exact lr | exact rr | exact SV.le_int (by omega) | exact SV.le_any _ | refine And.intro ?_ ?_)); done) ?_
 rintro i ⟨p1, p2⟩
 have hx : (i : Int) < l.length → (l.getD (i : Int).toNat sta0).key.length ≤ 2^40 := fun hi => hk.2 _ (getD_mem (by omega))
 have e1 : (i : Int).toNat = i := Int.toNat_natCast i
 have hbad : ∀ e : Int, i < l.length → e ≠ 0 → stnE l i = e → stasE l = e := fun e h h1 h2 => by
  unfold stasE; rw [if_neg (by omega)]
  exact firstAt_eq h p2 h1 h2
 rcases Nat.lt_or_ge i l.length with hi | hi
 · obtain ⟨s, hs⟩ : ∃ s, s = l.getD (i : Int).toNat sta0 := ⟨_, rfl⟩
   conv => whnf
   repeat' (first | (refine CallX.exact (s108 _ (hx (by omega))) rfl rfl ?_; rotate_right; conv => whnf) | (refine br_intro ?_ ?_ <;> intro hb <;> (try simp only [brs] at hb) <;> conv => whnf) | (refine RegX.rule (id := 8) hT rfl [] oTFlG174_8 (by decide +kernel) ?_; conv => whnf) | omega | (refine And.intro ?_ ?_; ((try dsimp only); first | omega | (refine szA rfl ?_; omega) | (refine szB rfl ?_; omega) | (unfold inI64; omega) | exact rfl | (simp only [lns] at *; omega) | decide | (unfold inI64; decide)); conv => whnf) | decide | assumption)
   all_goals try (exfalso; omega)
   all_goals first
    | (refine .ret _ ?_
       conv => whnf
       refine ⟨[], ⟨?_, rfl⟩, trivial⟩
       conv => lhs; whnf
       congr 2
       exact (hbad _ (by omega) (by decide) (by clear p2 hbad hk hx; simp only [e1, toNat_pred] at *; unfold stnE strLe; grind)).symm)
    | (have hok : stnE l i = if hrs s = false then 1 else 0 := by
        clear p2 hbad hk hx; simp only [e1, toNat_pred] at *; subst hs; unfold stnE strLe; grind
       refine LoopX.rule hT (C := []) (ι := Nat) (fun k => k ≤ 7 ∧ ∀ j, j < k → okW s j = true) (fun k => mkSt [(0, .d (stas l)), (10, .d (stas l)), (11, .d (.int .i64 l.length)), (12, .d (.int .i64 i)), (37, .agg (((staF s).drop 1).map .d)), (38, .d (.int .i64 k))] []) (fun k => 7 - k) 0 ⟨by omega, by omega⟩ (by rw [hs]; exact (by (refine Entails.mk' [] rfl rfl ?_ ?_ <;> repeat' (first | exact True.intro | exact lr | exact rr | exact SV.le_int (by omega) | exact SV.le_any _ | refine And.intro ?_ ?_)); done)) ?_
       rintro k ⟨q1, q2⟩
       have hkk : k = 7 ∨ k = 0 ∨ k = 1 ∨ k = 2 ∨ k = 3 ∨ k = 4 ∨ k = 5 ∨ k = 6 := by omega
       rcases hkk with rfl | rfl | rfl | rfl | rfl | rfl | rfl | rfl
       · rw [hrs_yes q2] at hok
         conv => whnf
         repeat' (first | (refine br_intro ?_ ?_ <;> intro hb <;> (try simp only [brs] at hb) <;> conv => whnf) | (refine RegX.rule (id := 8) hT rfl [] oTFlG174_8 (by decide +kernel) ?_; conv => whnf) | omega | (refine And.intro ?_ ?_; ((try dsimp only); first | omega | (refine szA rfl ?_; omega) | (refine szB rfl ?_; omega) | (unfold inI64; omega) | exact rfl | (simp only [lns] at *; omega) | decide | (unfold inI64; decide)); conv => whnf) | decide | assumption)
         exact ⟨i + 1, ⟨by omega, first_step p2 (by rw [hok]; rfl)⟩, by omega, (by (refine Entails.mk' [] rfl rfl ?_ ?_ <;> repeat' (first | exact True.intro | exact lr | exact rr | exact SV.le_int (by omega) | exact SV.le_any _ | refine And.intro ?_ ?_)); done)⟩
       · conv => whnf
         repeat' (first | (refine CallX.exact (s119 _ _ _) rfl rfl ?_; rotate_right; conv => whnf) | (refine br_intro ?_ ?_ <;> intro hb <;> (try simp only [brs] at hb) <;> conv => whnf) | (refine RegX.rule (id := 8) hT rfl [] oTFlG174_8 (by decide +kernel) ?_; conv => whnf) | omega | (refine And.intro ?_ ?_; ((try dsimp only); first | omega | (refine szA rfl ?_; omega) | (refine szB rfl ?_; omega) | (unfold inI64; omega) | exact rfl | (simp only [lns] at *; omega) | decide | (unfold inI64; decide)); conv => whnf) | decide | assumption)
         all_goals first
          | (refine .ret _ ?_
             conv => whnf
             refine ⟨[], ⟨?_, rfl⟩, trivial⟩
             conv => lhs; whnf
             congr 2
             exact (hbad _ (by omega) (by decide) (by rw [hok, hrs_no (j := 0) (by omega) (by show decide ((0 ≤ s.h 0 ∧ s.h 0 ≤ s.h 1) ∧ s.h 1 ≤ 1440) = false; rw [decide_eq_false_iff_not]; omega)]; rfl)).symm)
          | exact ⟨1, ⟨by omega, all_step (p := fun j => okW s j = true) (i := 0) q2 (by show decide ((0 ≤ s.h 0 ∧ s.h 0 ≤ s.h 1) ∧ s.h 1 ≤ 1440) = true; rw [decide_eq_true_eq]; omega)⟩, by omega, (by (refine Entails.mk' [] rfl rfl ?_ ?_ <;> repeat' (first | exact True.intro | exact lr | exact rr | exact SV.le_int (by omega) | exact SV.le_any _ | refine And.intro ?_ ?_)); done)⟩
       · conv => whnf
         repeat' (first | (refine CallX.exact (s119 _ _ _) rfl rfl ?_; rotate_right; conv => whnf) | (refine br_intro ?_ ?_ <;> intro hb <;> (try simp only [brs] at hb) <;> conv => whnf) | (refine RegX.rule (id := 8) hT rfl [] oTFlG174_8 (by decide +kernel) ?_; conv => whnf) | omega | (refine And.intro ?_ ?_; ((try dsimp only); first | omega | (refine szA rfl ?_; omega) | (refine szB rfl ?_; omega) | (unfold inI64; omega) | exact rfl | (simp only [lns] at *; omega) | decide | (unfold inI64; decide)); conv => whnf) | decide | assumption)
         all_goals first
          | (refine .ret _ ?_
             conv => whnf
             refine ⟨[], ⟨?_, rfl⟩, trivial⟩
             conv => lhs; whnf
             congr 2
             exact (hbad _ (by omega) (by decide) (by rw [hok, hrs_no (j := 1) (by omega) (by show decide ((0 ≤ s.h 2 ∧ s.h 2 ≤ s.h 3) ∧ s.h 3 ≤ 1440) = false; rw [decide_eq_false_iff_not]; omega)]; rfl)).symm)
          | exact ⟨2, ⟨by omega, all_step (p := fun j => okW s j = true) (i := 1) q2 (by show decide ((0 ≤ s.h 2 ∧ s.h 2 ≤ s.h 3) ∧ s.h 3 ≤ 1440) = true; rw [decide_eq_true_eq]; omega)⟩, by omega, (by (refine Entails.mk' [] rfl rfl ?_ ?_ <;> repeat' (first | exact True.intro | exact lr | exact rr | exact SV.le_int (by omega) | exact SV.le_any _ | refine And.intro ?_ ?_)); done)⟩
       · conv => whnf
         repeat' (first | (refine CallX.exact (s119 _ _ _) rfl rfl ?_; rotate_right; conv => whnf) | (refine br_intro ?_ ?_ <;> intro hb <;> (try simp only [brs] at hb) <;> conv => whnf) | (refine RegX.rule (id := 8) hT rfl [] oTFlG174_8 (by decide +kernel) ?_; conv => whnf) | omega | (refine And.intro ?_ ?_; ((try dsimp only); first | omega | (refine szA rfl ?_; omega) | (refine szB rfl ?_; omega) | (unfold inI64; omega) | exact rfl | (simp only [lns] at *; omega) | decide | (unfold inI64; decide)); conv => whnf) | decide | assumption)
         all_goals first
          | (refine .ret _ ?_
             conv => whnf
             refine ⟨[], ⟨?_, rfl⟩, trivial⟩
             conv => lhs; whnf
             congr 2
             exact (hbad _ (by omega) (by decide) (by rw [hok, hrs_no (j := 2) (by omega) (by show decide ((0 ≤ s.h 4 ∧ s.h 4 ≤ s.h 5) ∧ s.h 5 ≤ 1440) = false; rw [decide_eq_false_iff_not]; omega)]; rfl)).symm)
          | exact ⟨3, ⟨by omega, all_step (p := fun j => okW s j = true) (i := 2) q2 (by show decide ((0 ≤ s.h 4 ∧ s.h 4 ≤ s.h 5) ∧ s.h 5 ≤ 1440) = true; rw [decide_eq_true_eq]; omega)⟩, by omega, (by (refine Entails.mk' [] rfl rfl ?_ ?_ <;> repeat' (first | exact True.intro | exact lr | exact rr | exact SV.le_int (by omega) | exact SV.le_any _ | refine And.intro ?_ ?_)); done)⟩
       · conv => whnf
         repeat' (first | (refine CallX.exact (s119 _ _ _) rfl rfl ?_; rotate_right; conv => whnf) | (refine br_intro ?_ ?_ <;> intro hb <;> (try simp only [brs] at hb) <;> conv => whnf) | (refine RegX.rule (id := 8) hT rfl [] oTFlG174_8 (by decide +kernel) ?_; conv => whnf) | omega | (refine And.intro ?_ ?_; ((try dsimp only); first | omega | (refine szA rfl ?_; omega) | (refine szB rfl ?_; omega) | (unfold inI64; omega) | exact rfl | (simp only [lns] at *; omega) | decide | (unfold inI64; decide)); conv => whnf) | decide | assumption)
         all_goals first
          | (refine .ret _ ?_
             conv => whnf
             refine ⟨[], ⟨?_, rfl⟩, trivial⟩
             conv => lhs; whnf
             congr 2
             exact (hbad _ (by omega) (by decide) (by rw [hok, hrs_no (j := 3) (by omega) (by show decide ((0 ≤ s.h 6 ∧ s.h 6 ≤ s.h 7) ∧ s.h 7 ≤ 1440) = false; rw [decide_eq_false_iff_not]; omega)]; rfl)).symm)
          | exact ⟨4, ⟨by omega, all_step (p := fun j => okW s j = true) (i := 3) q2 (by show decide ((0 ≤ s.h 6 ∧ s.h 6 ≤ s.h 7) ∧ s.h 7 ≤ 1440) = true; rw [decide_eq_true_eq]; omega)⟩, by omega, (by (refine Entails.mk' [] rfl rfl ?_ ?_ <;> repeat' (first | exact True.intro | exact lr | exact rr | exact SV.le_int (by omega) | exact SV.le_any _ | refine And.intro ?_ ?_)); done)⟩
       · conv => whnf
         repeat' (first | (refine CallX.exact (s119 _ _ _) rfl rfl ?_; rotate_right; conv => whnf) | (refine br_intro ?_ ?_ <;> intro hb <;> (try simp only [brs] at hb) <;> conv => whnf) | (refine RegX.rule (id := 8) hT rfl [] oTFlG174_8 (by decide +kernel) ?_; conv => whnf) | omega | (refine And.intro ?_ ?_; ((try dsimp only); first | omega | (refine szA rfl ?_; omega) | (refine szB rfl ?_; omega) | (unfold inI64; omega) | exact rfl | (simp only [lns] at *; omega) | decide | (unfold inI64; decide)); conv => whnf) | decide | assumption)
         all_goals first
          | (refine .ret _ ?_
             conv => whnf
             refine ⟨[], ⟨?_, rfl⟩, trivial⟩
             conv => lhs; whnf
             congr 2
             exact (hbad _ (by omega) (by decide) (by rw [hok, hrs_no (j := 4) (by omega) (by show decide ((0 ≤ s.h 8 ∧ s.h 8 ≤ s.h 9) ∧ s.h 9 ≤ 1440) = false; rw [decide_eq_false_iff_not]; omega)]; rfl)).symm)
          | exact ⟨5, ⟨by omega, all_step (p := fun j => okW s j = true) (i := 4) q2 (by show decide ((0 ≤ s.h 8 ∧ s.h 8 ≤ s.h 9) ∧ s.h 9 ≤ 1440) = true; rw [decide_eq_true_eq]; omega)⟩, by omega, (by (refine Entails.mk' [] rfl rfl ?_ ?_ <;> repeat' (first | exact True.intro | exact lr | exact rr | exact SV.le_int (by omega) | exact SV.le_any _ | refine And.intro ?_ ?_)); done)⟩
       · conv => whnf
         repeat' (first | (refine CallX.exact (s119 _ _ _) rfl rfl ?_; rotate_right; conv => whnf) | (refine br_intro ?_ ?_ <;> intro hb <;> (try simp only [brs] at hb) <;> conv => whnf) | (refine RegX.rule (id := 8) hT rfl [] oTFlG174_8 (by decide +kernel) ?_; conv => whnf) | omega | (refine And.intro ?_ ?_; ((try dsimp only); first | omega | (refine szA rfl ?_; omega) | (refine szB rfl ?_; omega) | (unfold inI64; omega) | exact rfl | (simp only [lns] at *; omega) | decide | (unfold inI64; decide)); conv => whnf) | decide | assumption)
         all_goals first
          | (refine .ret _ ?_
             conv => whnf
             refine ⟨[], ⟨?_, rfl⟩, trivial⟩
             conv => lhs; whnf
             congr 2
             exact (hbad _ (by omega) (by decide) (by rw [hok, hrs_no (j := 5) (by omega) (by show decide ((0 ≤ s.h 10 ∧ s.h 10 ≤ s.h 11) ∧ s.h 11 ≤ 1440) = false; rw [decide_eq_false_iff_not]; omega)]; rfl)).symm)
          | exact ⟨6, ⟨by omega, all_step (p := fun j => okW s j = true) (i := 5) q2 (by show decide ((0 ≤ s.h 10 ∧ s.h 10 ≤ s.h 11) ∧ s.h 11 ≤ 1440) = true; rw [decide_eq_true_eq]; omega)⟩, by omega, (by (refine Entails.mk' [] rfl rfl ?_ ?_ <;> repeat' (first | exact True.intro | exact lr | exact rr | exact SV.le_int (by omega) | exact SV.le_any _ | refine And.intro ?_ ?_)); done)⟩
       · conv => whnf
         repeat' (first | (refine CallX.exact (s119 _ _ _) rfl rfl ?_; rotate_right; conv => whnf) | (refine br_intro ?_ ?_ <;> intro hb <;> (try simp only [brs] at hb) <;> conv => whnf) | (refine RegX.rule (id := 8) hT rfl [] oTFlG174_8 (by decide +kernel) ?_; conv => whnf) | omega | (refine And.intro ?_ ?_; ((try dsimp only); first | omega | (refine szA rfl ?_; omega) | (refine szB rfl ?_; omega) | (unfold inI64; omega) | exact rfl | (simp only [lns] at *; omega) | decide | (unfold inI64; decide)); conv => whnf) | decide | assumption)
         all_goals first
          | (refine .ret _ ?_
             conv => whnf
             refine ⟨[], ⟨?_, rfl⟩, trivial⟩
             conv => lhs; whnf
             congr 2
             exact (hbad _ (by omega) (by decide) (by rw [hok, hrs_no (j := 6) (by omega) (by show decide ((0 ≤ s.h 12 ∧ s.h 12 ≤ s.h 13) ∧ s.h 13 ≤ 1440) = false; rw [decide_eq_false_iff_not]; omega)]; rfl)).symm)
          | exact ⟨7, ⟨by omega, all_step (p := fun j => okW s j = true) (i := 6) q2 (by show decide ((0 ≤ s.h 12 ∧ s.h 12 ≤ s.h 13) ∧ s.h 13 ≤ 1440) = true; rw [decide_eq_true_eq]; omega)⟩, by omega, (by (refine Entails.mk' [] rfl rfl ?_ ?_ <;> repeat' (first | exact True.intro | exact lr | exact rr | exact SV.le_int (by omega) | exact SV.le_any _ | refine And.intro ?_ ?_)); done)⟩)
 have hil : i = l.length := by omega
 subst hil
 conv => whnf
 repeat' (first | (refine br_intro ?_ ?_ <;> intro hb <;> (try simp only [brs] at hb) <;> conv => whnf) | (refine RegX.rule (id := 8) hT rfl [] oTFlG174_8 (by decide +kernel) ?_; conv => whnf) | omega | (refine And.intro ?_ ?_; ((try dsimp only); first | omega | (refine szA rfl ?_; omega) | (refine szB rfl ?_; omega) | (unfold inI64; omega) | exact rfl | (simp only [lns] at *; omega) | decide | (unfold inI64; decide)); conv => whnf) | decide | assumption)
 all_goals try (exfalso; omega)
 refine .ret _ ?_
 conv => whnf
 refine ⟨[], ⟨?_, rfl⟩, trivial⟩
 conv => lhs; whnf
 congr 2
 unfold stasE; rw [if_neg (by omega), firstAt_zero p2]
set_option maxHeartbeats 4000000 in
theorem z82 (l : List Sta) (hk : stasOk l) : FSpec Tryz.prog 82 [.d (stas l)] [] (fun x r => x = .d (.int .i64 (stasE l)) ∧ r = []) := by
 have hlen := hk.1
 refine spec_of hT (C := []) Tryz.func82 rfl Tryz.call82 rfl rfl rfl ?_
 conv => whnf
 refine br_intro (fun h0 => ?_) (fun h0 => ?_)
 · simp at h0
   conv => whnf
   refine .ret _ ?_
   conv => whnf
   refine ⟨[], ⟨?_, rfl⟩, trivial⟩
   conv => lhs; whnf
   unfold stasE; rw [if_pos (by omega)]
 simp at h0
 conv => whnf
 refine LoopX.rule hT (C := []) (ι := Nat) (fun i => i ≤ l.length ∧ ∀ j, j < i → stnE l j = 0) (fun i => mkSt [(3, .d (.str (if i = 0 then [] else (l.getD (i - 1) sta0).key))), (11, .d (stas l)), (12, .d (.int .i64 l.length)), (13, .d (.int .i64 i))] []) (fun i => l.length - i) 0 ⟨by omega, by omega⟩ (by (refine Entails.mk' [] rfl rfl ?_ ?_ <;> repeat' (first | exact True.intro | exact lr | exact rr | exact SV.le_int (by omega) | exact SV.le_any _ | refine And.intro ?_ ?_)); done) ?_
 rintro i ⟨p1, p2⟩
 have hx : (i : Int) < l.length → (l.getD (i : Int).toNat sta0).key.length ≤ 2^40 := fun hi => hk.2 _ (getD_mem (by omega))
 have e1 : (i : Int).toNat = i := Int.toNat_natCast i
 have hbad : ∀ e : Int, i < l.length → e ≠ 0 → stnE l i = e → stasE l = e := fun e h h1 h2 => by
  unfold stasE; rw [if_neg (by omega)]
  exact firstAt_eq h p2 h1 h2
 rcases Nat.lt_or_ge i l.length with hi | hi
 · obtain ⟨s, hs⟩ : ∃ s, s = l.getD (i : Int).toNat sta0 := ⟨_, rfl⟩
   conv => whnf
   repeat' (first | (refine CallX.exact (s21 _ (hx (by omega))) rfl rfl ?_; rotate_right; conv => whnf) | (refine br_intro ?_ ?_ <;> intro hb <;> (try simp only [brs] at hb) <;> conv => whnf) | omega | (refine And.intro ?_ ?_; ((try dsimp only); first | omega | (refine szA rfl ?_; omega) | (refine szB rfl ?_; omega) | (unfold inI64; omega) | exact rfl | (simp only [lns] at *; omega) | decide | (unfold inI64; decide)); conv => whnf) | decide | assumption)
   all_goals try (exfalso; omega)
   all_goals first
    | (refine .ret _ ?_
       conv => whnf
       refine ⟨[], ⟨?_, rfl⟩, trivial⟩
       conv => lhs; whnf
       congr 2
       exact (hbad _ (by omega) (by decide) (by clear p2 hbad hk hx; simp only [e1, toNat_pred] at *; unfold stnE strLe; grind [isKey_nil, less_nil])).symm)
    | (have hok : stnE l i = if hrs s = false then 1 else 0 := by
        clear p2 hbad hk hx; simp only [e1, toNat_pred] at *; subst hs; unfold stnE strLe; grind [isKey_nil, less_nil]
       refine LoopX.rule hT (C := []) (ι := Nat) (fun k => k ≤ 7 ∧ ∀ j, j < k → okW s j = true) (fun k => mkSt [(3, .d (.str s.key)), (11, .d (stas l)), (12, .d (.int .i64 l.length)), (13, .d (.int .i64 i)), (30, .agg (((staF s).drop 1).map .d)), (31, .d (.int .i64 k))] []) (fun k => 7 - k) 0 ⟨by omega, by omega⟩ (by rw [hs]; exact (by (refine Entails.mk' [] rfl rfl ?_ ?_ <;> repeat' (first | exact True.intro | exact lr | exact rr | exact SV.le_int (by omega) | exact SV.le_any _ | refine And.intro ?_ ?_)); done)) ?_
       rintro k ⟨q1, q2⟩
       have hkk : k = 7 ∨ k = 0 ∨ k = 1 ∨ k = 2 ∨ k = 3 ∨ k = 4 ∨ k = 5 ∨ k = 6 := by omega
       rcases hkk with rfl | rfl | rfl | rfl | rfl | rfl | rfl | rfl
       · rw [hrs_yes q2] at hok
         conv => whnf
         repeat' (first | (refine br_intro ?_ ?_ <;> intro hb <;> (try simp only [brs] at hb) <;> conv => whnf) | omega | (refine And.intro ?_ ?_; ((try dsimp only); first | omega | (refine szA rfl ?_; omega) | (refine szB rfl ?_; omega) | (unfold inI64; omega) | exact rfl | (simp only [lns] at *; omega) | decide | (unfold inI64; decide)); conv => whnf) | decide | assumption)
         exact ⟨i + 1, ⟨by omega, first_step p2 (by rw [hok]; rfl)⟩, by omega, Entails.mk' [] rfl rfl ⟨(by rw [show (if i + 1 = 0 then ([] : List UInt8) else (l.getD (i + 1 - 1) sta0).key) = s.key from by rw [if_neg (by omega), hs, e1, Nat.add_sub_cancel]]; exact lr), lr, lr, lr, trivial⟩ trivial⟩
       · conv => whnf
         repeat' (first | (refine CallX.exact (s110 _ _ _) rfl rfl ?_; rotate_right; conv => whnf) | (refine br_intro ?_ ?_ <;> intro hb <;> (try simp only [brs] at hb) <;> conv => whnf) | omega | (refine And.intro ?_ ?_; ((try dsimp only); first | omega | (refine szA rfl ?_; omega) | (refine szB rfl ?_; omega) | (unfold inI64; omega) | exact rfl | (simp only [lns] at *; omega) | decide | (unfold inI64; decide)); conv => whnf) | decide | assumption)
         all_goals first
          | (refine .ret _ ?_
             conv => whnf
             refine ⟨[], ⟨?_, rfl⟩, trivial⟩
             conv => lhs; whnf
             congr 2
             exact (hbad _ (by omega) (by decide) (by rw [hok, hrs_no (j := 0) (by omega) (by show decide ((0 ≤ s.h 0 ∧ s.h 0 ≤ s.h 1) ∧ s.h 1 ≤ 1440) = false; rw [decide_eq_false_iff_not]; omega)]; rfl)).symm)
          | exact ⟨1, ⟨by omega, all_step (p := fun j => okW s j = true) (i := 0) q2 (by show decide ((0 ≤ s.h 0 ∧ s.h 0 ≤ s.h 1) ∧ s.h 1 ≤ 1440) = true; rw [decide_eq_true_eq]; omega)⟩, by omega, (by (refine Entails.mk' [] rfl rfl ?_ ?_ <;> repeat' (first | exact True.intro | exact lr | exact rr | exact SV.le_int (by omega) | exact SV.le_any _ | refine And.intro ?_ ?_)); done)⟩
       · conv => whnf
         repeat' (first | (refine CallX.exact (s110 _ _ _) rfl rfl ?_; rotate_right; conv => whnf) | (refine br_intro ?_ ?_ <;> intro hb <;> (try simp only [brs] at hb) <;> conv => whnf) | omega | (refine And.intro ?_ ?_; ((try dsimp only); first | omega | (refine szA rfl ?_; omega) | (refine szB rfl ?_; omega) | (unfold inI64; omega) | exact rfl | (simp only [lns] at *; omega) | decide | (unfold inI64; decide)); conv => whnf) | decide | assumption)
         all_goals first
          | (refine .ret _ ?_
             conv => whnf
             refine ⟨[], ⟨?_, rfl⟩, trivial⟩
             conv => lhs; whnf
             congr 2
             exact (hbad _ (by omega) (by decide) (by rw [hok, hrs_no (j := 1) (by omega) (by show decide ((0 ≤ s.h 2 ∧ s.h 2 ≤ s.h 3) ∧ s.h 3 ≤ 1440) = false; rw [decide_eq_false_iff_not]; omega)]; rfl)).symm)
          | exact ⟨2, ⟨by omega, all_step (p := fun j => okW s j = true) (i := 1) q2 (by show decide ((0 ≤ s.h 2 ∧ s.h 2 ≤ s.h 3) ∧ s.h 3 ≤ 1440) = true; rw [decide_eq_true_eq]; omega)⟩, by omega, (by (refine Entails.mk' [] rfl rfl ?_ ?_ <;> repeat' (first | exact True.intro | exact lr | exact rr | exact SV.le_int (by omega) | exact SV.le_any _ | refine And.intro ?_ ?_)); done)⟩
       · conv => whnf
         repeat' (first | (refine CallX.exact (s110 _ _ _) rfl rfl ?_; rotate_right; conv => whnf) | (refine br_intro ?_ ?_ <;> intro hb <;> (try simp only [brs] at hb) <;> conv => whnf) | omega | (refine And.intro ?_ ?_; ((try dsimp only); first | omega | (refine szA rfl ?_; omega) | (refine szB rfl ?_; omega) | (unfold inI64; omega) | exact rfl | (simp only [lns] at *; omega) | decide | (unfold inI64; decide)); conv => whnf) | decide | assumption)
         all_goals first
          | (refine .ret _ ?_
             conv => whnf
             refine ⟨[], ⟨?_, rfl⟩, trivial⟩
             conv => lhs; whnf
             congr 2
             exact (hbad _ (by omega) (by decide) (by rw [hok, hrs_no (j := 2) (by omega) (by show decide ((0 ≤ s.h 4 ∧ s.h 4 ≤ s.h 5) ∧ s.h 5 ≤ 1440) = false; rw [decide_eq_false_iff_not]; omega)]; rfl)).symm)
          | exact ⟨3, ⟨by omega, all_step (p := fun j => okW s j = true) (i := 2) q2 (by show decide ((0 ≤ s.h 4 ∧ s.h 4 ≤ s.h 5) ∧ s.h 5 ≤ 1440) = true; rw [decide_eq_true_eq]; omega)⟩, by omega, (by (refine Entails.mk' [] rfl rfl ?_ ?_ <;> repeat' (first | exact True.intro | exact lr | exact rr | exact SV.le_int (by omega) | exact SV.le_any _ | refine And.intro ?_ ?_)); done)⟩
       · conv => whnf
         repeat' (first | (refine CallX.exact (s110 _ _ _) rfl rfl ?_; rotate_right; conv => whnf) | (refine br_intro ?_ ?_ <;> intro hb <;> (try simp only [brs] at hb) <;> conv => whnf) | omega | (refine And.intro ?_ ?_; ((try dsimp only); first | omega | (refine szA rfl ?_; omega) | (refine szB rfl ?_; omega) | (unfold inI64; omega) | exact rfl | (simp only [lns] at *; omega) | decide | (unfold inI64; decide)); conv => whnf) | decide | assumption)
         all_goals first
          | (refine .ret _ ?_
             conv => whnf
             refine ⟨[], ⟨?_, rfl⟩, trivial⟩
             conv => lhs; whnf
             congr 2
             exact (hbad _ (by omega) (by decide) (by rw [hok, hrs_no (j := 3) (by omega) (by show decide ((0 ≤ s.h 6 ∧ s.h 6 ≤ s.h 7) ∧ s.h 7 ≤ 1440) = false; rw [decide_eq_false_iff_not]; omega)]; rfl)).symm)
          | exact ⟨4, ⟨by omega, all_step (p := fun j => okW s j = true) (i := 3) q2 (by show decide ((0 ≤ s.h 6 ∧ s.h 6 ≤ s.h 7) ∧ s.h 7 ≤ 1440) = true; rw [decide_eq_true_eq]; omega)⟩, by omega, (by (refine Entails.mk' [] rfl rfl ?_ ?_ <;> repeat' (first | exact True.intro | exact lr | exact rr | exact SV.le_int (by omega) | exact SV.le_any _ | refine And.intro ?_ ?_)); done)⟩
       · conv => whnf
         repeat' (first | (refine CallX.exact (s110 _ _ _) rfl rfl ?_; rotate_right; conv => whnf) | (refine br_intro ?_ ?_ <;> intro hb <;> (try simp only [brs] at hb) <;> conv => whnf) | omega | (refine And.intro ?_ ?_; ((try dsimp only); first | omega | (refine szA rfl ?_; omega) | (refine szB rfl ?_; omega) | (unfold inI64; omega) | exact rfl | (simp only [lns] at *; omega) | decide | (unfold inI64; decide)); conv => whnf) | decide | assumption)
         all_goals first
          | (refine .ret _ ?_
             conv => whnf
             refine ⟨[], ⟨?_, rfl⟩, trivial⟩
             conv => lhs; whnf
             congr 2
             exact (hbad _ (by omega) (by decide) (by rw [hok, hrs_no (j := 4) (by omega) (by show decide ((0 ≤ s.h 8 ∧ s.h 8 ≤ s.h 9) ∧ s.h 9 ≤ 1440) = false; rw [decide_eq_false_iff_not]; omega)]; rfl)).symm)
          | exact ⟨5, ⟨by omega, all_step (p := fun j => okW s j = true) (i := 4) q2 (by show decide ((0 ≤ s.h 8 ∧ s.h 8 ≤ s.h 9) ∧ s.h 9 ≤ 1440) = true; rw [decide_eq_true_eq]; omega)⟩, by omega, (by (refine Entails.mk' [] rfl rfl ?_ ?_ <;> repeat' (first | exact True.intro | exact lr | exact rr | exact SV.le_int (by omega) | exact SV.le_any _ | refine And.intro ?_ ?_)); done)⟩
       · conv => whnf
         repeat' (first | (refine CallX.exact (s110 _ _ _) rfl rfl ?_; rotate_right; conv => whnf) | (refine br_intro ?_ ?_ <;> intro hb <;> (try simp only [brs] at hb) <;> conv => whnf) | omega | (refine And.intro ?_ ?_; ((try dsimp only); first | omega | (refine szA rfl ?_; omega) | (refine szB rfl ?_; omega) | (unfold inI64; omega) | exact rfl | (simp only [lns] at *; omega) | decide | (unfold inI64; decide)); conv => whnf) | decide | assumption)
         all_goals first
          | (refine .ret _ ?_
             conv => whnf
             refine ⟨[], ⟨?_, rfl⟩, trivial⟩
             conv => lhs; whnf
             congr 2
             exact (hbad _ (by omega) (by decide) (by rw [hok, hrs_no (j := 5) (by omega) (by show decide ((0 ≤ s.h 10 ∧ s.h 10 ≤ s.h 11) ∧ s.h 11 ≤ 1440) = false; rw [decide_eq_false_iff_not]; omega)]; rfl)).symm)
          | exact ⟨6, ⟨by omega, all_step (p := fun j => okW s j = true) (i := 5) q2 (by show decide ((0 ≤ s.h 10 ∧ s.h 10 ≤ s.h 11) ∧ s.h 11 ≤ 1440) = true; rw [decide_eq_true_eq]; omega)⟩, by omega, (by (refine Entails.mk' [] rfl rfl ?_ ?_ <;> repeat' (first | exact True.intro | exact lr | exact rr | exact SV.le_int (by omega) | exact SV.le_any _ | refine And.intro ?_ ?_)); done)⟩
       · conv => whnf
         repeat' (first | (refine CallX.exact (s110 _ _ _) rfl rfl ?_; rotate_right; conv => whnf) | (refine br_intro ?_ ?_ <;> intro hb <;> (try simp only [brs] at hb) <;> conv => whnf) | omega | (refine And.intro ?_ ?_; ((try dsimp only); first | omega | (refine szA rfl ?_; omega) | (refine szB rfl ?_; omega) | (unfold inI64; omega) | exact rfl | (simp only [lns] at *; omega) | decide | (unfold inI64; decide)); conv => whnf) | decide | assumption)
         all_goals first
          | (refine .ret _ ?_
             conv => whnf
             refine ⟨[], ⟨?_, rfl⟩, trivial⟩
             conv => lhs; whnf
             congr 2
             exact (hbad _ (by omega) (by decide) (by rw [hok, hrs_no (j := 6) (by omega) (by show decide ((0 ≤ s.h 12 ∧ s.h 12 ≤ s.h 13) ∧ s.h 13 ≤ 1440) = false; rw [decide_eq_false_iff_not]; omega)]; rfl)).symm)
          | exact ⟨7, ⟨by omega, all_step (p := fun j => okW s j = true) (i := 6) q2 (by show decide ((0 ≤ s.h 12 ∧ s.h 12 ≤ s.h 13) ∧ s.h 13 ≤ 1440) = true; rw [decide_eq_true_eq]; omega)⟩, by omega, (by (refine Entails.mk' [] rfl rfl ?_ ?_ <;> repeat' (first | exact True.intro | exact lr | exact rr | exact SV.le_int (by omega) | exact SV.le_any _ | refine And.intro ?_ ?_)); done)⟩)
 have hil : i = l.length := by omega
 subst hil
 conv => whnf
 repeat' (first | (refine br_intro ?_ ?_ <;> intro hb <;> (try simp only [brs] at hb) <;> conv => whnf) | omega | (refine And.intro ?_ ?_; ((try dsimp only); first | omega | (refine szA rfl ?_; omega) | (refine szB rfl ?_; omega) | (unfold inI64; omega) | exact rfl | (simp only [lns] at *; omega) | decide | (unfold inI64; decide)); conv => whnf) | decide | assumption)
 all_goals try (exfalso; omega)
 refine .ret _ ?_
 conv => whnf
 refine ⟨[], ⟨?_, rfl⟩, trivial⟩
 conv => lhs; whnf
 congr 2
 unfold stasE; rw [if_neg (by omega), firstAt_zero p2]
def oTFlK21_33 : List (Nat × List Nat) := [(0, []), (1, []), (2, []), (3, []), (4, [3]), (5, [3]), (6, []), (7, []), (8, [3, 4, 5, 6, 7]), (9, []), (10, []), (11, []), (12, [])]
def vehE1 (f : Flt) (i : Nat) : Int :=
 if isKeyB (f.veh.getD i veh0).key = false then 5 else if 0 < i ∧ strLe (f.veh.getD i veh0).key (f.veh.getD (i - 1) veh0).key = true then 7
 else if clIx f.cls (f.veh.getD i veh0).cls < 0 then 8 else 0
def pltE1 (f : Flt) (i : Nat) : Int :=
 if ¬ (0 ≤ (f.plt.getD i plt0).frm ∧ (f.plt.getD i plt0).frm ≤ 5761439) then 1 else if veIx f.veh (f.plt.getD i plt0).veh < 0 then 8 else if isPlateB (f.plt.getD i plt0).plt = false then 3
 else if 0 < i ∧ 0 ≤ pltCmp (f.plt.getD (i - 1) plt0) (f.plt.getD i plt0) then 7 else if ((f.plt.take i).any (twP (f.plt.getD i plt0))) = true then 6 else 0
def fltE0 (f : Flt) : Int := firstE [stasE f.sta, clssE f.cls, if 500 < f.veh.length then 2 else 0]
def fltE (f : Flt) : Int := if fltE0 f ≠ 0 then fltE0 f else if firstAt (vehE1 f) f.veh.length ≠ 0 then firstAt (vehE1 f) f.veh.length
 else if 1000 < f.plt.length then 2 else firstAt (pltE1 f) f.plt.length
structure fltOk (f : Flt) : Prop where
 sta : stasOk f.sta
 cls : clsOk f.cls
 veh : f.veh.length ≤ 2^20 ∧ ∀ v ∈ f.veh, v.key.length ≤ 2^40 ∧ v.cls.length ≤ 2^40
 plt : f.plt.length ≤ 2^20 ∧ ∀ p ∈ f.plt, (-2^40 ≤ p.frm ∧ p.frm ≤ 2^40) ∧ p.veh.length ≤ 2^40 ∧ p.plt.length ≤ 2^40
def fltC (f : Flt) : Res := .cells 31 [.d (stas f.sta), .d (clss f.cls), .d (vehs f.veh), .d (plts f.plt)]
theorem vehE_sorted {f : Flt} (h : firstAt (vehE1 f) f.veh.length = 0) : vehS f.veh := by
 have h0 := firstAt_all h
 have step : ∀ j, j + 1 < f.veh.length → Op.bytesLess (f.veh.getD j veh0).key (f.veh.getD (j + 1) veh0).key = true := by
  intro j hj
  have := h0 (j + 1) hj
  unfold vehE1 strLe at this
  simp only [Nat.add_sub_cancel] at this
  have hl := less_tri (f.veh.getD (j + 1) veh0).key (f.veh.getD j veh0).key
  grind
 intro i j hij hj
 induction j with
 | zero => omega
 | succ j ih =>
   rcases Nat.lt_or_ge i j with q | q
   · exact less_trans (ih q (by omega)) (step j hj)
   · obtain rfl : i = j := by omega
     exact step i hj
theorem z243 (f : Flt) (hl : f.veh.length ≤ 2^20) (hs : vehS f.veh) (key : List UInt8) : FSpec Tryz.prog 243 [flt f, .d (.str key)] [] (fun x r => x = .d (.int .i64 (veIx f.veh key)) ∧ r = []) := by
 refine spec_of hT (C := []) Tryz.func243 rfl Tryz.call243 rfl rfl rfl ?_
 conv => whnf
 refine CallX.of (z286 f.veh hl hs key) [] rfl ⟨lr, lr, lr, trivial⟩ trivial rfl rfl ?_
 rintro x rout ⟨⟨j, b, rfl, hj⟩, rfl⟩
 refine ⟨rfl, ?_⟩
 conv => whnf
 repeat' (first | (refine br_intro ?_ ?_ <;> intro hb <;> (try simp only [brs] at hb) <;> conv => whnf) | omega | (refine And.intro ?_ ?_; ((try dsimp only); first | omega | (refine szA rfl ?_; omega) | (refine szB rfl ?_; omega) | (unfold inI64; omega) | exact rfl | (simp only [lns] at *; omega) | decide | (unfold inI64; decide)); conv => whnf) | decide | assumption)
 · refine .ret _ ?_
   conv => whnf
   refine ⟨[], ⟨?_, rfl⟩, trivial⟩
   conv => lhs; whnf
   congr 2
   rw [hj, if_neg (by simp [hb])]
 · refine .ret _ ?_
   conv => whnf
   refine ⟨[], ⟨?_, rfl⟩, trivial⟩
   conv => lhs; whnf
   congr 2
   rw [hj, if_pos hb]
set_option maxHeartbeats 4000000 in
theorem z21 (f : Flt) (hk : fltOk f) : FSpec Tryz.prog 21 [flt f] [] (fun x r => x = .d (.int .i64 (fltE f)) ∧ r = []) := by
 have hlv := hk.veh.1
 have hlp := hk.plt.1
 refine spec_of hT (C := []) Tryz.func21 rfl Tryz.call21 rfl rfl rfl ?_
 conv => whnf
 repeat' (first | (refine CallX.exact (z82 f.sta hk.sta) rfl rfl ?_; rotate_right; conv => whnf) | (refine CallX.exact (z83 f.cls hk.cls) rfl rfl ?_; rotate_right; conv => whnf) | (refine br_intro ?_ ?_ <;> intro hb <;> (try simp only [brs] at hb) <;> conv => whnf) | (refine RegX.rule (id := 33) hT rfl [] oTFlK21_33 (by decide +kernel) ?_; conv => whnf) | omega | (refine And.intro ?_ ?_; ((try dsimp only); first | omega | (refine szA rfl ?_; omega) | (refine szB rfl ?_; omega) | (unfold inI64; omega) | exact rfl | (simp only [lns] at *; omega) | decide | (unfold inI64; decide)); conv => whnf) | decide | assumption)
 · refine .ret _ ?_
   conv => whnf
   refine ⟨[], ⟨?_, rfl⟩, trivial⟩
   conv => lhs; whnf
   congr 2
   unfold fltE fltE0
   simp [firstE, hb]
 · refine .ret _ ?_
   conv => whnf
   refine ⟨[], ⟨?_, rfl⟩, trivial⟩
   conv => lhs; whnf
   congr 2
   have h1 : stasE f.sta = 0 := by assumption
   unfold fltE fltE0
   simp [firstE, h1, hb]
 · refine .ret _ ?_
   conv => whnf
   refine ⟨[], ⟨?_, rfl⟩, trivial⟩
   conv => lhs; whnf
   congr 2
   have h1 : stasE f.sta = 0 := by assumption
   have h2 : clssE f.cls = 0 := by assumption
   unfold fltE fltE0
   simp [firstE, h1, h2, show 500 < f.veh.length by omega]
 have F0 : fltE0 f = 0 := by
  have h1 : stasE f.sta = 0 := by assumption
  have h2 : clssE f.cls = 0 := by assumption
  unfold fltE0
  simp [firstE, h1, h2, show ¬ 500 < f.veh.length by omega]
 refine LoopX.rule hT (C := []) (ι := Nat) (fun i => i ≤ f.veh.length ∧ ∀ j, j < i → vehE1 f j = 0) (fun i => mkSt [(1, .ptr 1 0), (5, .d (.str (if i = 0 then [] else (f.veh.getD (i - 1) veh0).key))), (28, .d (vehs f.veh)), (29, .d (.int .i64 f.veh.length)), (30, .d (.int .i64 i))] [(1, fltC f)]) (fun i => f.veh.length - i) 0 ⟨by omega, by omega⟩ (by (refine Entails.mk' [(1, 1)] rfl rfl ?_ ?_ <;> repeat' (first | exact True.intro | exact lr | exact rr | exact SV.le_int (by omega) | exact SV.le_any _ | refine And.intro ?_ ?_)); done) ?_
 rintro i ⟨p1, p2⟩
 have hx : (i : Int) < f.veh.length → (f.veh.getD (i : Int).toNat veh0).key.length ≤ 2^40 ∧ (f.veh.getD (i : Int).toNat veh0).cls.length ≤ 2^40 := fun hi => hk.veh.2 _ (getD_mem (by omega))
 have e1 : (i : Int).toNat = i := Int.toNat_natCast i
 have hbad : ∀ e : Int, i < f.veh.length → e ≠ 0 → vehE1 f i = e → fltE f = e := fun e h h1 h2 => by
  unfold fltE; rw [if_neg (by omega), firstAt_eq h p2 h1 h2, if_pos h1]
 rcases Nat.lt_or_ge i f.veh.length with hi | hi
 · conv => whnf
   repeat' (first | (refine CallX.exact (s21 _ (hx (by omega)).1) rfl rfl ?_; rotate_right; conv => whnf) | (refine CallX.exact (z84 f.cls (Nat.le_trans hk.cls.1 (by decide)) _) rfl rfl ?_; rotate_right; conv => whnf) | (refine br_intro ?_ ?_ <;> intro hb <;> (try simp only [brs] at hb) <;> conv => whnf) | (refine RegX.rule (id := 33) hT rfl [] oTFlK21_33 (by decide +kernel) ?_; conv => whnf) | omega | (refine And.intro ?_ ?_; ((try dsimp only); first | omega | (refine szA rfl ?_; omega) | (refine szB rfl ?_; omega) | (unfold inI64; omega) | exact rfl | (simp only [lns] at *; omega) | decide | (unfold inI64; decide)); conv => whnf) | decide | assumption)
   all_goals try (exfalso; omega)
   all_goals first
    | (refine ⟨i + 1, ⟨by omega, first_step p2 (by clear p2 hbad hk hx; simp only [e1] at *; unfold vehE1 strLe; grind [isKey_nil, less_nil])⟩, by omega, Entails.mk' [(1, 1)] rfl rfl ⟨lr, (by rw [show (if i + 1 = 0 then ([] : List UInt8) else (f.veh.getD (i + 1 - 1) veh0).key) = (f.veh.getD (i : Int).toNat veh0).key from by rw [if_neg (by omega), e1, Nat.add_sub_cancel]]; exact lr), lr, lr, lr, trivial⟩ ⟨rr, trivial⟩⟩)
    | (refine .ret _ ?_
       conv => whnf
       refine ⟨[], ⟨?_, rfl⟩, trivial⟩
       conv => lhs; whnf
       congr 2
       exact (hbad _ (by omega) (by decide) (by clear p2 hbad hk hx; simp only [e1] at *; unfold vehE1 strLe; grind [isKey_nil, less_nil])).symm)
 have hil : i = f.veh.length := by omega
 subst hil
 have F1 := firstAt_zero p2
 clear hbad hx p2
 conv => whnf
 repeat' (first | (refine br_intro ?_ ?_ <;> intro hb <;> (try simp only [brs] at hb) <;> conv => whnf) | (refine RegX.rule (id := 33) hT rfl [] oTFlK21_33 (by decide +kernel) ?_; conv => whnf) | omega | (refine And.intro ?_ ?_; ((try dsimp only); first | omega | (refine szA rfl ?_; omega) | (refine szB rfl ?_; omega) | (unfold inI64; omega) | exact rfl | (simp only [lns] at *; omega) | decide | (unfold inI64; decide)); conv => whnf) | decide | assumption)
 all_goals try (exfalso; omega)
 · refine .ret _ ?_
   conv => whnf
   refine ⟨[], ⟨?_, rfl⟩, trivial⟩
   conv => lhs; whnf
   congr 2
   unfold fltE
   rw [if_neg (by omega), if_neg (by omega), if_pos (by omega)]
 refine LoopX.rule hT (C := []) (ι := Nat) (fun i => i ≤ f.plt.length ∧ ∀ j, j < i → pltE1 f j = 0) (fun i => mkSt [(1, .ptr 1 0), (59, .d (plts f.plt)), (60, .d (.int .i64 f.plt.length)), (61, .d (.int .i64 i))] [(1, fltC f)]) (fun i => f.plt.length - i) 0 ⟨by omega, by omega⟩ (by (refine Entails.mk' [(1, 1)] rfl rfl ?_ ?_ <;> repeat' (first | exact True.intro | exact lr | exact rr | exact SV.le_int (by omega) | exact SV.le_any _ | refine And.intro ?_ ?_)); done) ?_
 rintro i ⟨p1, p2⟩
 have hx : (i : Int) < f.plt.length → (-2^40 ≤ (f.plt.getD (i : Int).toNat plt0).frm ∧ (f.plt.getD (i : Int).toNat plt0).frm ≤ 2^40) ∧ (f.plt.getD (i : Int).toNat plt0).veh.length ≤ 2^40 ∧ (f.plt.getD (i : Int).toNat plt0).plt.length ≤ 2^40 := fun hi => hk.plt.2 _ (getD_mem (by omega))
 have e1 : (i : Int).toNat = i := Int.toNat_natCast i
 have hbad : ∀ e : Int, i < f.plt.length → e ≠ 0 → pltE1 f i = e → fltE f = e := fun e h h1 h2 => by
  unfold fltE; rw [if_neg (by omega), if_neg (by omega), if_neg (by omega), firstAt_eq h p2 h1 h2]
 rcases Nat.lt_or_ge i f.plt.length with hi | hi
 · conv => whnf
   have hx2 := hx (by omega)
   have hpb : (i : Int) > 0 → (-2^40 ≤ (f.plt.getD (0 + ((i : Int) - 1).toNat) plt0).frm ∧ (f.plt.getD (0 + ((i : Int) - 1).toNat) plt0).frm ≤ 2^40) := fun h => (hk.plt.2 _ (getD_mem (by omega))).1
   have hz : (0 : Nat) + ((i : Int) - 1).toNat = i - 1 := by omega
   repeat' (first | (refine CallX.exact (s133 _) rfl rfl ?_; rotate_right; conv => whnf) | (refine CallX.exact (z85 f (by omega) _) rfl rfl ?_; rotate_right; conv => whnf) | (refine CallX.exact (z44 _ hx2.2.2) rfl rfl ?_; rotate_right; conv => whnf) | (refine CallX.exact (z86 (f.plt.getD (0 + ((i : Int) - 1).toNat) plt0) (f.plt.getD (i : Int).toNat plt0) (hpb (by omega)) hx2.1) rfl rfl ?_; rotate_right; conv => whnf) | (refine CallX.of (z87 (f.plt.take i) (by rw [List.length_take]; omega) (f.plt.getD (i : Int).toNat plt0)) [(1000001, 9)] rfl ⟨SV.le_ro (by rw [List.length_take]; omega) (fun j hj => ?_), lr, trivial⟩ ⟨rr, trivial⟩ rfl rfl ?_; rotate_right; rintro x rout ⟨rfl, rfl⟩; refine ⟨rfl, ?_⟩; conv => whnf) | (refine br_intro ?_ ?_ <;> intro hb <;> (try simp only [brs] at hb) <;> conv => whnf) | (refine RegX.rule (id := 33) hT rfl [] oTFlK21_33 (by decide +kernel) ?_; conv => whnf) | omega | (refine And.intro ?_ ?_; ((try dsimp only); first | omega | (refine szA rfl ?_; omega) | (refine szB rfl ?_; omega) | (unfold inI64; omega) | exact rfl | (simp only [lns] at *; omega) | decide | (unfold inI64; decide)); conv => whnf) | decide | assumption)
   all_goals try (exfalso; omega)
   all_goals first
    | (simp only [rowF]
       have hji : j < i := by omega
       rw [show Int.toNat 0 + j = j from Nat.zero_add j, List.getD_eq_getElem?_getD, List.getD_eq_getElem?_getD, List.getElem?_take_of_lt hji]; done)
    | (refine ⟨i + 1, ⟨by omega, first_step p2 (by clear p2 hbad hk hx hx2 hpb; simp only [e1, hz] at *; unfold pltE1; grind)⟩, by omega, (by (refine Entails.mk' [(1, 1)] rfl rfl ?_ ?_ <;> repeat' (first | exact True.intro | exact lr | exact rr | exact SV.le_int (by omega) | exact SV.le_any _ | refine And.intro ?_ ?_)); done)⟩)
    | (refine .ret _ ?_
       conv => whnf
       refine ⟨[], ⟨?_, rfl⟩, trivial⟩
       conv => lhs; whnf
       congr 2
       exact (hbad _ (by omega) (by decide) (by clear p2 hbad hk hx hx2 hpb; simp only [e1, hz] at *; unfold pltE1; grind)).symm)
 have hil : i = f.plt.length := by omega
 subst hil
 have F2 := firstAt_zero p2
 clear hbad hx p2
 conv => whnf
 repeat' (first | (refine br_intro ?_ ?_ <;> intro hb <;> (try simp only [brs] at hb) <;> conv => whnf) | (refine RegX.rule (id := 33) hT rfl [] oTFlK21_33 (by decide +kernel) ?_; conv => whnf) | omega | (refine And.intro ?_ ?_; ((try dsimp only); first | omega | (refine szA rfl ?_; omega) | (refine szB rfl ?_; omega) | (unfold inI64; omega) | exact rfl | (simp only [lns] at *; omega) | decide | (unfold inI64; decide)); conv => whnf) | decide | assumption)
 all_goals try (exfalso; omega)
 refine .ret _ ?_
 conv => whnf
 refine ⟨[], ⟨?_, rfl⟩, trivial⟩
 conv => lhs; whnf
 congr 2
 unfold fltE
 rw [if_neg (by omega), if_neg (by omega), if_neg (by omega)]
 exact F2.symm
def oTFlL177_14 : List (Nat × List Nat) := [(0, []), (1, []), (2, [0, 1]), (3, [0, 1]), (5, [0, 1, 2, 3]), (6, [0, 1, 2, 3]), (7, [0, 1, 2, 3, 5, 6]), (8, [0, 1, 2, 3, 5, 6]), (10, [0, 1, 2, 3, 5, 6, 7, 8]), (11, [0, 1, 2, 3, 5, 6, 7, 8]), (12, [0, 1, 2, 3, 5, 6, 7, 8, 10, 11]), (13, [0, 1, 2, 3, 5, 6, 7, 8, 10, 11]), (4, [5, 6, 7, 8, 10, 11, 12, 13]), (9, [10, 11, 12, 13]), (14, []), (15, []), (16, []), (17, [])]
def oTFlL177_17 : List (Nat × List Nat) := [(0, []), (1, []), (2, []), (3, []), (4, []), (5, [3, 4]), (6, []), (7, []), (8, []), (9, [3, 4, 5, 6, 7, 8]), (10, [3, 4, 5, 6, 7, 8]), (11, []), (12, [])]
theorem pltCmp_frm {a b : Plt} (h : pltCmp a b < 0) : a.frm ≤ b.frm := by
 unfold pltCmp at h
 rw [firstE] at h
 split at h
 · rename_i q; unfold cmpI at q; split at q <;> (try split at q) <;> omega
 · unfold cmpI at h; split at h <;> (try split at h) <;> omega
theorem pltE1_cmp {f : Flt} {j : Nat} (h : pltE1 f j = 0) (hj : 0 < j) : pltCmp (f.plt.getD (j - 1) plt0) (f.plt.getD j plt0) < 0 := by
 unfold pltE1 at h; grind
theorem frm_mono {f : Flt} {i : Nat} (h : ∀ j, j ≤ i → 0 < j → pltCmp (f.plt.getD (j - 1) plt0) (f.plt.getD j plt0) < 0) : ∀ b a, a ≤ b → b ≤ i → (f.plt.getD a plt0).frm ≤ (f.plt.getD b plt0).frm := by
 intro b
 induction b with
 | zero => intro a ha _; obtain rfl : a = 0 := by omega
           exact Int.le_refl _
 | succ b ih =>
   intro a ha hb
   rcases Nat.lt_or_ge a (b + 1) with q | q
   · have h1 := ih a (by omega) (by omega)
     have h2 := pltCmp_frm (h (b + 1) hb (by omega))
     rw [Nat.add_sub_cancel] at h2
     omega
   · obtain rfl : a = b + 1 := by omega
     exact Int.le_refl _
theorem getD_take {α : Type} {l : List α} {d : α} {i j : Nat} (h : j < i) : (l.take i).getD j d = l.getD j d := by
 rw [List.getD_eq_getElem?_getD, List.getElem?_take_of_lt h, ← List.getD_eq_getElem?_getD]
theorem tw_none {f : Flt} {i m : Nat} (hi : i < f.plt.length) (hm : m ≤ i) (h1 : ∀ j, m ≤ j → j < i → twP (f.plt.getD i plt0) (f.plt.getD j plt0) = false)
 (h2 : ∀ j, j < m → (f.plt.getD j plt0).frm ≠ (f.plt.getD i plt0).frm) : (f.plt.take i).any (twP (f.plt.getD i plt0)) = false := by
 rw [List.any_eq_false]
 intro x hx
 obtain ⟨j, hj, rfl⟩ := mem_getD (d := plt0) hx
 rw [List.length_take] at hj
 rw [getD_take (by omega)]
 rcases Nat.lt_or_ge j m with q | q
 · unfold twP; simp only [decide_eq_false (h2 j q), Bool.false_and]; simp
 · rw [h1 j q (by omega)]; simp
theorem tw_some {f : Flt} {i k : Nat} (hi : i < f.plt.length) (hk : k < i) (h : twP (f.plt.getD i plt0) (f.plt.getD k plt0) = true) : (f.plt.take i).any (twP (f.plt.getD i plt0)) = true := by
 rw [List.any_eq_true]
 refine ⟨(f.plt.take i).getD k plt0, getD_mem (by rw [List.length_take]; omega), ?_⟩
 rw [getD_take hk]
 exact h
def pltsE (f : Flt) : Int := if 1000 < f.plt.length then 2 else firstAt (pltE1 f) f.plt.length
set_option maxHeartbeats 4000000 in
theorem z177 (f : Flt) (hk : fltOk f) (hs : vehS f.veh) : FSpec Tryz.prog 177 [flt f] [] (fun x r => x = .d (.int .i64 (pltsE f)) ∧ r = []) := by
 have hlv := hk.veh.1
 have hlp := hk.plt.1
 refine spec_of hT (C := []) Tryz.func177 rfl Tryz.call177 rfl rfl rfl ?_
 conv => whnf
 repeat' (first | (refine br_intro ?_ ?_ <;> intro hb <;> (try simp only [brs] at hb) <;> conv => whnf) | (refine RegX.rule (id := 14) hT rfl [] oTFlL177_14 (by decide +kernel) ?_; conv => whnf) | (refine RegX.rule (id := 17) hT rfl [] oTFlL177_17 (by decide +kernel) ?_; conv => whnf) | omega | (refine And.intro ?_ ?_; ((try dsimp only); first | omega | (refine szA rfl ?_; omega) | (refine szB rfl ?_; omega) | (unfold inI64; omega) | exact rfl | (simp only [lns] at *; omega) | decide | (unfold inI64; decide)); conv => whnf) | decide | assumption)
 · refine .ret _ ?_
   conv => whnf
   refine ⟨[], ⟨?_, rfl⟩, trivial⟩
   conv => lhs; whnf
   congr 2
   unfold pltsE; rw [if_pos (by omega)]
 refine LoopX.rule hT (C := []) (ι := Nat) (fun i => i ≤ f.plt.length ∧ ∀ j, j < i → pltE1 f j = 0) (fun i => mkSt [(1, .ptr 1 0), (13, .d (plts f.plt)), (14, .d (.int .i64 f.plt.length)), (15, .d (.int .i64 i))] [(1, fltC f)]) (fun i => f.plt.length - i) 0 ⟨by omega, by omega⟩ (by (refine Entails.mk' [(1, 1)] rfl rfl ?_ ?_ <;> repeat' (first | exact True.intro | exact lr | exact rr | exact SV.le_int (by omega) | exact SV.le_any _ | refine And.intro ?_ ?_)); done) ?_
 rintro i ⟨p1, p2⟩
 have hx : (i : Int) < f.plt.length → (-2^40 ≤ (f.plt.getD (i : Int).toNat plt0).frm ∧ (f.plt.getD (i : Int).toNat plt0).frm ≤ 2^40) ∧ (f.plt.getD (i : Int).toNat plt0).veh.length ≤ 2^40 ∧ (f.plt.getD (i : Int).toNat plt0).plt.length ≤ 2^40 := fun hi => hk.plt.2 _ (getD_mem (by omega))
 have e1 : (i : Int).toNat = i := Int.toNat_natCast i
 have hbad : ∀ e : Int, i < f.plt.length → e ≠ 0 → pltE1 f i = e → pltsE f = e := fun e h h1 h2 => by
  unfold pltsE; rw [if_neg (by omega), firstAt_eq h p2 h1 h2]
 rcases Nat.lt_or_ge i f.plt.length with hi | hi
 · have hx2 := hx (by omega)
   have hz : ((i : Int) - 1).toNat = i - 1 := by omega
   conv => whnf
   repeat' (first | (refine CallX.exact (s154 _) rfl rfl ?_; rotate_right; conv => whnf) | (refine CallX.exact (z243 f (by omega) hs _) rfl rfl ?_; rotate_right; conv => whnf) | (refine CallX.exact (s185 _ hx2.2.2) rfl rfl ?_; rotate_right; conv => whnf) | (refine CallX.exact (s183 _ _) rfl rfl ?_; rotate_right; conv => whnf) | (refine CallX.exact (s184 _ _) rfl rfl ?_; rotate_right; conv => whnf) | (refine CallX.pure (s182 [cmpI (f.plt.getD ((i : Int) - 1).toNat plt0).frm (f.plt.getD (i : Int).toNat plt0).frm, cmpS (f.plt.getD ((i : Int) - 1).toNat plt0).veh (f.plt.getD (i : Int).toNat plt0).veh, cmpS (f.plt.getD ((i : Int) - 1).toNat plt0).plt (f.plt.getD (i : Int).toNat plt0).plt] (by simp)) ⟨SV.le_lit (by rfl) (by rfl), trivial⟩ rfl ?_; conv => whnf) | (refine br_intro ?_ ?_ <;> intro hb <;> (try simp only [brs] at hb) <;> conv => whnf) | (refine RegX.rule (id := 14) hT rfl [] oTFlL177_14 (by decide +kernel) ?_; conv => whnf) | (refine RegX.rule (id := 17) hT rfl [] oTFlL177_17 (by decide +kernel) ?_; conv => whnf) | omega | (refine And.intro ?_ ?_; ((try dsimp only); first | omega | (refine szA rfl ?_; omega) | (refine szB rfl ?_; omega) | (unfold inI64; omega) | exact rfl | (simp only [lns] at *; omega) | decide | (unfold inI64; decide)); conv => whnf) | decide | assumption)
   all_goals first
    | (refine .ret _ ?_
       conv => whnf
       refine ⟨[], ⟨?_, rfl⟩, trivial⟩
       conv => lhs; whnf
       congr 2
       exact (hbad _ (by omega) (by decide) (by clear p2 hbad hk hx hx2; simp only [e1, hz] at *; unfold pltE1; (try unfold pltCmp); grind)).symm)
    | (have hcmp : 0 < i → pltCmp (f.plt.getD (i - 1) plt0) (f.plt.getD i plt0) < 0 := by
        intro _
        first
         | (exfalso; omega)
         | (clear p2 hbad hk hx hx2; simp only [e1, hz] at *; unfold pltCmp; assumption)
       have hall : ∀ j, j ≤ i → 0 < j → pltCmp (f.plt.getD (j - 1) plt0) (f.plt.getD j plt0) < 0 := fun j h1 h2 => by
        rcases Nat.lt_or_ge j i with q | q
        · exact pltE1_cmp (p2 j q) h2
        · obtain rfl : j = i := by omega
          exact hcmp h2
       have hz0 : ∀ (c : Bool), pltE1 f i = (if (f.plt.take i).any (twP (f.plt.getD i plt0)) = true then 6 else 0) := by
        intro _
        clear p2 hbad hk hx hx2; simp only [e1, hz] at *; unfold pltE1; grind
       have hz0 := hz0 true
       refine LoopX.rule hT (C := []) (ι := Nat) (fun m => m ≤ i ∧ ∀ j, m ≤ j → j < i → (f.plt.getD j plt0).frm = (f.plt.getD i plt0).frm ∧ twP (f.plt.getD i plt0) (f.plt.getD j plt0) = false)
        (fun m => mkSt [(1, .ptr 1 0), (4, .ptr 4 0), (6, .d (.int .i64 ((m : Int) - 1))), (13, .d (plts f.plt)), (14, .d (.int .i64 f.plt.length)), (15, .d (.int .i64 i))] [(1, fltC f), (4, pltC (f.plt.getD (i : Int).toNat plt0))]) (fun m => m) i ⟨by omega, fun j h1 h2 => by omega⟩ (by (refine Entails.mk' [(1, 1), (4, 4)] rfl rfl ?_ ?_ <;> repeat' (first | exact True.intro | exact lr | exact rr | exact SV.le_int (by omega) | exact SV.le_any _ | refine And.intro ?_ ?_)); done) ?_
       rintro m ⟨q1, q2⟩
       have hm1 : 0 < m → ((m : Int) - 1).toNat = m - 1 := fun h => by omega
       conv => whnf
       repeat' (first | (refine br_intro ?_ ?_ <;> intro hb <;> (try simp only [brs] at hb) <;> conv => whnf) | (refine RegX.rule (id := 14) hT rfl [] oTFlL177_14 (by decide +kernel) ?_; conv => whnf) | (refine RegX.rule (id := 17) hT rfl [] oTFlL177_17 (by decide +kernel) ?_; conv => whnf) | omega | (refine And.intro ?_ ?_; ((try dsimp only); first | omega | (refine szA rfl ?_; omega) | (refine szB rfl ?_; omega) | (unfold inI64; omega) | exact rfl | (simp only [lns] at *; omega) | decide | (unfold inI64; decide)); conv => whnf) | decide | assumption)
       all_goals first
        | (refine .ret _ ?_
           conv => whnf
           refine ⟨[], ⟨?_, rfl⟩, trivial⟩
           conv => lhs; whnf
           congr 2
           refine (hbad _ (by omega) (by decide) ?_).symm
           rw [hz0, if_pos (tw_some hi (k := m - 1) (by omega) (by clear p2 hbad hk hx hx2 hall; simp only [e1, hm1 (by omega)] at *; unfold twP; grind))])
        | exact ⟨m - 1, ⟨by omega, fun j h1 h2 => by
           rcases Nat.lt_or_ge j m with r | r
           · obtain rfl : j = m - 1 := by omega
             clear p2 hbad hk hx hx2 hall; simp only [e1, hm1 (by omega)] at *; unfold twP; grind
           · exact q2 j r h2⟩, by show m - 1 < m; omega, Entails.mk' [(1, 1), (4, 4)] rfl rfl ⟨lr, lr, SV.le_int (by omega), lr, lr, lr, trivial⟩ ⟨rr, rr, trivial⟩⟩
        | exact ⟨i + 1, ⟨by omega, first_step p2 (by
           rw [hz0, tw_none hi q1 (fun j h1 h2 => (q2 j h1 h2).2) (fun j h1 => by
            have h2 := frm_mono hall i (m - 1) (by omega) (by omega)
            have h3 := frm_mono hall (m - 1) j (by omega) (by omega)
            clear p2 hbad hk hx hx2 hall; simp only [e1, hm1 (by omega)] at *
            omega)]
           rfl)⟩, by omega, (by (refine Entails.mk' [(1, 1)] rfl rfl ?_ ?_ <;> repeat' (first | exact True.intro | exact lr | exact rr | exact SV.le_int (by omega) | exact SV.le_any _ | refine And.intro ?_ ?_)); done)⟩)
 have hil : i = f.plt.length := by omega
 subst hil
 have F2 := firstAt_zero p2
 clear hbad hx p2
 conv => whnf
 repeat' (first | (refine br_intro ?_ ?_ <;> intro hb <;> (try simp only [brs] at hb) <;> conv => whnf) | (refine RegX.rule (id := 14) hT rfl [] oTFlL177_14 (by decide +kernel) ?_; conv => whnf) | (refine RegX.rule (id := 17) hT rfl [] oTFlL177_17 (by decide +kernel) ?_; conv => whnf) | omega | (refine And.intro ?_ ?_; ((try dsimp only); first | omega | (refine szA rfl ?_; omega) | (refine szB rfl ?_; omega) | (unfold inI64; omega) | exact rfl | (simp only [lns] at *; omega) | decide | (unfold inI64; decide)); conv => whnf) | decide | assumption)
 all_goals try (exfalso; omega)
 refine .ret _ ?_
 conv => whnf
 refine ⟨[], ⟨?_, rfl⟩, trivial⟩
 conv => lhs; whnf
 congr 2
 unfold pltsE
 rw [if_neg (by omega)]
 exact F2.symm
def n3 : List (List UInt8) := [[110, 49], [110, 50], [110, 51]]
def oTToB204_3 : List (Nat × List Nat) := [(0, []), (1, [0]), (2, [0, 1]), (3, [0, 1, 2]), (5, [0, 1, 2, 3]), (6, [0, 1, 2, 3, 5]), (7, [0, 1, 2, 3, 5, 6]), (8, [0, 1, 2, 3, 5]), (9, [0, 1, 2, 3, 5, 6, 7, 8]), (10, [0, 1, 2, 3, 5]), (11, [0, 1, 2, 3]), (12, [0, 1, 2, 3]), (4, [0, 1, 5, 6, 7, 8, 9, 10, 11, 12]), (13, [0, 1]), (14, [])]
theorem RowIn.ext {G : Hp} {w : World} {e k n m : Nat} {v : Value} {g h : Nat → List DV} (hn : n = m) (hg : ∀ i, i < n → g i = h i) (q : RowIn G w e k v n g) : RowIn G w e k v m h := by
 subst hn
 obtain ⟨xs, h1, h2, h3⟩ := q
 exact ⟨xs, h1, fun i hi => by rw [← hg i hi]; exact h2 i hi, fun i j x hi hx => h3 i j x hi (by rw [hg i hi]; exact hx)⟩
theorem Res.le_mapR {kk : KK} {e k : Nat} {has has' : List DV → Bool} {len len' : List DV → Nat} {get get' : List DV → Nat → List DV}
 (h : ∀ key, wk [kk] key = true → has key = has' key ∧ len key = len' key ∧ ∀ i, i < len key → get key i = get' key i) : Res.le (.mapR kk e k has len get none) (.mapR kk e k has' len' get' none) := by
 refine ⟨rfl, fun G β w d => ?_⟩
 rintro ⟨r, es, clock, l, h1, h2, h3, h4, h5, h6, h7, h8, h9⟩
 refine ⟨r, es, clock, l, h1, h2, h3, h4, h5, h6, fun key hk => ?_, h8, h9⟩
 have := h7 key hk
 obtain ⟨a1, a2, a3⟩ := h key hk
 cases hf : l.find? (fun p => keyEq key p.1) with
 | some p =>
   rw [hf] at this
   exact ⟨a1 ▸ this.1, fun hh => RowIn.ext a2 a3 (this.2 hh)⟩
 | none =>
   rw [hf] at this
   exact ⟨a1 ▸ this.1, a2 ▸ this.2⟩
def strK : List DV → List UInt8
 | [.str p] => p
 | _ => []
theorem strK_wk {k : List DV} (h : wk [.str] k = true) : k = [.str (strK k)] := by
 cases k with
 | nil => cases h
 | cons x k =>
   cases k with
   | cons y k => simp [wk] at h
   | nil => cases x <;> simp [wk, wk1] at h <;> rfl
theorem keyEq_str (k : List DV) (h : wk [.str] k = true) (p : List UInt8) : keyEq k [.str p] = decide (strK k = p) := by
 have h1 := strK_wk h
 generalize strK k = q at h1 ⊢
 subst h1
 simp only [keyEq, keyEq1, Bool.and_true]
 rw [Bool.eq_iff_iff]; simp
def hldF : Hld → List DV := fun h => [.str h.veh, .int .i64 h.frm, .int .i64 h.til]
def hld0 : Hld := ⟨[], 0, 0⟩
def mS (H : List UInt8 → Bool) (V : List UInt8 → List UInt8) : Res := .map false false [.str] [.str []] (fun k => H (strK k)) (fun k => [.str (V (strK k))])
def mI (H : List UInt8 → Bool) (D : List UInt8 → Int) : Res := .map false false [.str] [.int .i64 0] (fun k => H (strK k)) (fun k => [.int .i64 (D (strK k))])
def mO (o : List UInt8 → List Hld) : Res := .mapR .str 247 3 (fun k => !(o (strK k)).isEmpty) (fun k => (o (strK k)).length) (fun k i => rowF hldF hld0 (o (strK k)) i) none
def pH (L : List Plt) (p : List UInt8) : Bool := (findP L p).isSome
def pV (L : List Plt) (p : List UInt8) : List UInt8 := match findP L p with | some e => e.veh | none => []
def qH (L : List Plt) (v : List UInt8) : Bool := (findV L v).isSome
def qV (L : List Plt) (v : List UInt8) : List UInt8 := match findV L v with | some e => e.plt | none => []
theorem findP_filter (L : List Plt) (p q : List UInt8) : findP (L.filter fun e => !decide (e.plt = p)) q = if q = p then none else findP L q := by
 unfold findP
 rw [List.find?_filter]
 by_cases h : q = p
 · rw [if_pos h, List.find?_eq_none]
   intro e _; subst h; simp
 · rw [if_neg h]
   congr 1; funext e
   by_cases he : e.plt = q
   · simp [he, h]
   · simp [he]
theorem findV_some {L : List Plt} {v : List UInt8} {e : Plt} (h : findV L v = some e) : e ∈ L ∧ e.veh = v :=
 ⟨List.mem_of_find?_eq_some h, by simpa using List.find?_some h⟩
theorem findV_filter {L : List Plt} (ha : L.Pairwise (fun p q => clashP p q = false)) {e : Plt} (he : e ∈ L) (v : List UInt8) : findV (L.filter fun x => !decide (x.plt = e.plt)) v = if v = e.veh then none else findV L v := by
 have hc : (L.filter fun x => !decide (x.plt = e.plt)) = L.filter fun x => !decide (x.veh = e.veh) := by
  refine List.filter_congr fun a hm => ?_
  congr 1
  rw [decide_eq_decide]
  constructor
  · intro q; rw [apart_eq ha hm he (by unfold clashP; simp [q])]
  · intro q; rw [apart_eq ha hm he (by unfold clashP; simp [q])]
 rw [hc]
 unfold findV
 rw [List.find?_filter]
 by_cases h : v = e.veh
 · rw [if_pos h, List.find?_eq_none]
   intro x _; subst h; simp
 · rw [if_neg h]
   congr 1; funext x
   by_cases hx : x.veh = v
   · simp [hx, h]
   · simp [hx]
theorem findP_snoc {L : List Plt} {x : Plt} (h : ∀ e ∈ L, e.plt ≠ x.plt) (q : List UInt8) : findP (L ++ [x]) q = if q = x.plt then some x else findP L q := by
 unfold findP
 rw [List.find?_append]
 by_cases hq : q = x.plt
 · rw [if_pos hq]
   have : L.find? (fun e => decide (e.plt = q)) = none := by
    rw [List.find?_eq_none]; intro e he; simp [hq, h e he]
   rw [this]; simp [hq]
 · rw [if_neg hq]
   cases L.find? (fun e => decide (e.plt = q)) with
   | some y => rfl
   | none => simp [Ne.symm hq]
theorem findV_snoc {L : List Plt} {x : Plt} (h : ∀ e ∈ L, e.veh ≠ x.veh) (q : List UInt8) : findV (L ++ [x]) q = if q = x.veh then some x else findV L q := by
 unfold findV
 rw [List.find?_append]
 by_cases hq : q = x.veh
 · rw [if_pos hq]
   have : L.find? (fun e => decide (e.veh = q)) = none := by
    rw [List.find?_eq_none]; intro e he; simp [hq, h e he]
   rw [this]; simp [hq]
 · rw [if_neg hq]
   cases L.find? (fun e => decide (e.veh = q)) with
   | some y => rfl
   | none => simp [Ne.symm hq]
def hR (s : HS) (H : List UInt8 → Bool) (D : List UInt8 → Int) : List (Nat × Res) :=
 [(1000005, .cells 283 [.mp 1000016]), (1000004, .cells 165 [.mp 1000015]), (1000003, .cells 135 [.mp 1000014]), (1000006, .cells 283 [.mp 1000017]),
   (1000016, mS (pH s.live) (pV s.live)), (1000015, mI H D), (1000014, mO s.out), (1000017, mS (qH s.live) (qV s.live))]
theorem le_delP (L : List Plt) (p : List UInt8) : Res.le (.map false false [.str] [.str []] (fun q => !keyEq q [.str p] && pH L (strK q)) (fun q => bif keyEq q [.str p] then [.str []] else [.str (pV L (strK q))]))
 (mS (pH (L.filter fun e => !decide (e.plt = p))) (pV (L.filter fun e => !decide (e.plt = p)))) := Res.le_map fun k hk => by
 rw [keyEq_str k hk p]
 unfold pH pV
 rw [findP_filter]
 by_cases h : strK k = p
 · simp [h]
 · simp [h]
theorem le_delQ {L : List Plt} (ha : L.Pairwise (fun p q => clashP p q = false)) {e : Plt} (he : e ∈ L) : Res.le (.map false false [.str] [.str []] (fun q => !keyEq q [.str e.veh] && qH L (strK q)) (fun q => bif keyEq q [.str e.veh] then [.str []] else [.str (qV L (strK q))]))
 (mS (qH (L.filter fun x => !decide (x.plt = e.plt))) (qV (L.filter fun x => !decide (x.plt = e.plt)))) := Res.le_map fun k hk => by
 rw [keyEq_str k hk e.veh]
 unfold qH qV
 rw [findV_filter ha he]
 by_cases h : strK k = e.veh
 · simp [h]
 · simp [h]
theorem le_back (o o' : List UInt8 → List Hld) (p : List UInt8) (x : Hld) (h : Nat → List DV) (hx : h 0 = hldF x) (ho : ∀ q, o' q = if q = p then o q ++ [x] else o q) :
 Res.le (.mapR .str 247 3 (fun q => keyEq q [.str p] || !(o (strK q)).isEmpty) (fun q => bif keyEq q [.str p] then (o p).length + 1 else (o (strK q)).length)
  (fun q => bif keyEq q [.str p] then appGet (o p).length (rowF hldF hld0 (o p)) h else fun i => rowF hldF hld0 (o (strK q)) i) none) (mO o') := Res.le_mapR fun k hk => by
 rw [keyEq_str k hk p, ho]
 by_cases hq : strK k = p
 · rw [if_pos hq, hq]
   simp only [decide_true, cond_true, Bool.true_or]
   refine ⟨by simp, by simp, fun i hi => ?_⟩
   exact rows_snocF hx i hi
 · rw [if_neg hq]
   simp [hq]
set_option maxHeartbeats 2000000 in
theorem z204 (s : HS) (H : List UInt8 → Bool) (D : List UInt8 → Int) (ha : s.live.Pairwise (fun p q => clashP p q = false)) (hD : ∀ e ∈ s.live, D e.plt = e.frm) (p : List UInt8) (t : Int) (hlen : (s.out p).length ≤ 2^20) :
 FSpec Tryz.prog 204 [.d (.str p), .d (.int .i64 t), .ptr 1000005 0, .ptr 1000004 0, .ptr 1000003 0, .ptr 1000006 0] (hR s H D) (fun y r => y = .tup [] ∧ r = hR (hdrop s p t) H D) := by
 have hl' : (s.out (strK [.str p])).length ≤ 2^20 := hlen
 cases hf : findP s.live p with
 | none =>
   have e1 : hdrop s p t = s := by unfold hdrop; rw [hf]
   have e2 : pH s.live (strK [.str p]) = false := by show (findP s.live p).isSome = false; rw [hf]; rfl
   rw [e1]
   refine spec_of hT (C := []) Tryz.func204 rfl Tryz.call204 rfl rfl rfl ?_
   conv => whnf
   repeat' (first | (refine ⟨rfl, ?_⟩; conv => whnf) | (refine br_intro ?_ ?_ <;> intro hb <;> (try simp only [brs] at hb) <;> conv => whnf) | (refine RegX.rule (id := 3) hT rfl [27] oTToB204_3 (by decide +kernel) ?_; conv => whnf) | omega | (refine And.intro ?_ ?_; ((try dsimp only); first | omega | (refine szA rfl ?_; omega) | (refine szB rfl ?_; omega) | (unfold inI64; omega) | exact rfl | (simp only [lns] at *; omega) | decide | (unfold inI64; decide)); conv => whnf) | decide | assumption)
   all_goals try (have q := ‹pH s.live (strK [DV.str p]) = true›; rw [e2] at q; cases q)
   refine .ret _ ?_
   conv => whnf
   exact ⟨hR s H D, ⟨rfl, rfl⟩, rr, rr, rr, rr, rr, rr, rr, rr, trivial⟩
 | some e =>
   obtain ⟨he1, he2⟩ := findP_some hf
   have e2 : pH s.live (strK [.str p]) = true := by show (findP s.live p).isSome = true; rw [hf]; rfl
   have e3 : pV s.live (strK [.str p]) = e.veh := by show (match findP s.live p with | some e => e.veh | none => []) = e.veh; rw [hf]
   have e4 : D (strK [.str p]) = e.frm := by show D p = e.frm; rw [← he2]; exact hD e he1
   have e5 : (hdrop s p t).live = s.live.filter fun e => !decide (e.plt = p) := hdrop_live s p t
   have e6 : ∀ q, (hdrop s p t).out q = if q = p ∧ e.frm < t then s.out q ++ [⟨e.veh, e.frm, t⟩] else s.out q := by intro q; unfold hdrop; rw [hf]
   have hdel := le_delQ ha he1
   rw [he2, ← e5, ← e3] at hdel
   have hdelP := le_delP s.live p
   rw [← e5] at hdelP
   refine spec_of hT (C := []) Tryz.func204 rfl Tryz.call204 rfl rfl rfl ?_
   conv => whnf
   repeat' (first | (refine ⟨rfl, ?_⟩; conv => whnf) | (refine br_intro ?_ ?_ <;> intro hb <;> (try simp only [brs] at hb) <;> conv => whnf) | (refine RegX.rule (id := 3) hT rfl [27] oTToB204_3 (by decide +kernel) ?_; conv => whnf) | omega | (refine And.intro ?_ ?_; ((try dsimp only); first | omega | (refine szA rfl ?_; omega) | (refine szB rfl ?_; omega) | (unfold inI64; omega) | exact rfl | (simp only [lns] at *; omega) | decide | (unfold inI64; decide)); conv => whnf) | decide | assumption)
   all_goals try (have q := ‹pH s.live (strK [DV.str p]) = false›; rw [e2] at q; cases q)
   · refine .weak _ ?_
     conv => whnf
     refine ⟨.tup [], hR (hdrop s p t) H D, lr, ⟨rfl, rfl⟩, rr, rr, rr, rr, hdelP, rr, ?_, hdel, trivial⟩
     have hft : e.frm < t := by rw [← e4]; exact hb
     exact le_back s.out _ p ⟨pV s.live (strK [.str p]), D (strK [.str p]), t⟩ _ rfl (fun q => by
      rw [e6, e3, e4]
      by_cases hq : q = p
      · rw [if_pos ⟨hq, hft⟩, if_pos hq]
      · rw [if_neg (fun c => hq c.1), if_neg hq])
   · refine .weak _ ?_
     conv => whnf
     have hft : ¬ e.frm < t := by rw [← e4]; omega
     have ho : (hdrop s p t).out = s.out := by funext q; rw [e6, if_neg (fun c => hft c.2)]
     refine ⟨.tup [], hR (hdrop s p t) H D, lr, ⟨rfl, rfl⟩, rr, rr, rr, rr, hdelP, rr, ?_, hdel, trivial⟩
     rw [show mO (hdrop s p t).out = mO s.out from by rw [ho]]
     exact rr
def oTToC151_13 : List (Nat × List Nat) := [(0, []), (1, [0]), (2, [0]), (3, [0, 1, 2]), (4, [0, 1, 2, 3]), (5, [0, 1, 2, 3]), (6, [0, 1, 2, 3, 4, 5]), (7, [0, 1, 2, 3, 4, 5, 6]), (8, [0, 1, 2, 3, 4, 5, 6]), (9, [0, 1, 2, 3, 4, 5, 6, 7, 8]), (10, [0, 1, 2, 3, 4, 5, 6, 7, 8]), (11, [0, 1, 2, 3, 4, 5, 6, 7, 8, 9, 10]), (12, [0, 1, 2, 3, 4, 5, 6, 7, 8, 9, 10]), (13, [0, 1, 2, 3, 4, 5, 6, 7, 8, 9, 10, 11, 12]), (14, [0, 1, 2, 3, 4, 5, 6, 7, 8, 9, 10, 11, 12]), (15, [3, 4, 5, 6, 7, 8, 11, 12, 13, 14]), (16, [6, 7, 8, 13, 14]), (17, [])]
theorem srtP_take {l : List Plt} (h : srtP l) (i : Nat) : srtP (l.take i) := List.Pairwise.sublist (List.take_sublist i l) h
theorem hall_take {l : List Plt} {i : Nat} (hi : i < l.length) : hall (l.take (i + 1)) = hstep (hall (l.take i)) (l.getD i plt0) := by
 rw [take_snocD (d := plt0) hi, hall_snoc]
theorem hdrop_len (s : HS) (p : List UInt8) (t : Int) (q : List UInt8) : ((hdrop s p t).out q).length + (hdrop s p t).live.length ≤ (s.out q).length + s.live.length := by
 rw [hdrop_live]
 unfold hdrop
 cases hf : findP s.live p with
 | none => simp only; have := List.length_filter_le (fun e => !decide (e.plt = p)) s.live; omega
 | some e =>
   obtain ⟨h1, h2⟩ := findP_some hf
   have h3 : (s.live.filter fun e => !decide (e.plt = p)).length < s.live.length := by
    have := List.length_filter_lt_length_iff_exists.2 (⟨e, h1, by simp [h2]⟩ : ∃ x ∈ s.live, ¬ (!decide (x.plt = p)) = true)
    exact this
   simp only
   split
   · rw [List.length_append, List.length_singleton]; omega
   · omega
theorem hmid_len (s : HS) (x : Plt) (q : List UInt8) : ((hmid s x).out q).length + (hmid s x).live.length ≤ (s.out q).length + s.live.length := by
 unfold hmid
 cases findV s.live x.veh with
 | none => exact Nat.le_refl _
 | some e => exact hdrop_len s e.plt x.frm q
theorem hstep_len (s : HS) (x : Plt) (q : List UInt8) : ((hstep s x).out q).length + (hstep s x).live.length ≤ (s.out q).length + s.live.length + 1 := by
 have h1 := hmid_len s x q
 have h2 := hdrop_len (hmid s x) x.plt x.frm q
 show ((hdrop (hmid s x) x.plt x.frm).out q).length + ((hdrop (hmid s x) x.plt x.frm).live ++ [x]).length ≤ _
 rw [List.length_append, List.length_singleton]
 omega
theorem hall_len (l : List Plt) : ∀ q, ((hall l).out q).length + (hall l).live.length ≤ l.length := by
 refine snoc_ind (P := fun l => ∀ q, ((hall l).out q).length + (hall l).live.length ≤ l.length) (fun q => Nat.le_refl _) ?_ l
 intro l x ih q
 rw [hall_snoc, List.length_append, List.length_singleton]
 have := hstep_len (hall l) x q
 have := ih q
 omega
theorem hmid_apart {s : HS} (ha : s.live.Pairwise (fun p q => clashP p q = false)) (x : Plt) : (hmid s x).live.Pairwise (fun p q => clashP p q = false) := by
 rw [hmid_live ha]; exact ha.filter _
theorem hdrop_apart {s : HS} (ha : s.live.Pairwise (fun p q => clashP p q = false)) (p : List UInt8) (t : Int) : (hdrop s p t).live.Pairwise (fun p q => clashP p q = false) := by
 rw [hdrop_live]; exact ha.filter _
theorem hdrop_sub {s : HS} {p : List UInt8} {t : Int} {e : Plt} (h : e ∈ (hdrop s p t).live) : e ∈ s.live ∧ e.plt ≠ p := by
 rw [hdrop_live, List.mem_filter] at h
 exact ⟨h.1, by simpa using h.2⟩
theorem hmid_sub {s : HS} (ha : s.live.Pairwise (fun p q => clashP p q = false)) {x e : Plt} (h : e ∈ (hmid s x).live) : e ∈ s.live ∧ e.veh ≠ x.veh := by
 rw [hmid_live ha, List.mem_filter] at h
 exact ⟨h.1, by simpa using h.2⟩
def hN (s : HS) (H : List UInt8 → Bool) (D : List UInt8 → Int) : List (Nat × Res) :=
 [(5, .cells 283 [.mp 16]), (4, .cells 165 [.mp 15]), (3, .cells 135 [.mp 14]), (6, .cells 283 [.mp 17]), (16, mS (pH s.live) (pV s.live)), (15, mI H D), (14, mO s.out), (17, mS (qH s.live) (qV s.live))]
theorem le_updP {L : List Plt} {x : Plt} (h : ∀ e ∈ L, e.plt ≠ x.plt) : Res.le (.map false false [.str] [.str []] (fun q => keyEq q [.str x.plt] || pH L (strK q)) (fun q => bif keyEq q [.str x.plt] then [.str x.veh] else [.str (pV L (strK q))]))
 (mS (pH (L ++ [x])) (pV (L ++ [x]))) := Res.le_map fun k hk => by
 rw [keyEq_str k hk x.plt]
 unfold pH pV
 rw [findP_snoc h]
 by_cases hq : strK k = x.plt
 · simp [hq]
 · simp [hq]
theorem le_updQ {L : List Plt} {x : Plt} (h : ∀ e ∈ L, e.veh ≠ x.veh) : Res.le (.map false false [.str] [.str []] (fun q => keyEq q [.str x.veh] || qH L (strK q)) (fun q => bif keyEq q [.str x.veh] then [.str x.plt] else [.str (qV L (strK q))]))
 (mS (qH (L ++ [x])) (qV (L ++ [x]))) := Res.le_map fun k hk => by
 rw [keyEq_str k hk x.veh]
 unfold qH qV
 rw [findV_snoc h]
 by_cases hq : strK k = x.veh
 · simp [hq]
 · simp [hq]
theorem le_updD (H : List UInt8 → Bool) (D : List UInt8 → Int) (p : List UInt8) (t : Int) : Res.le (.map false false [.str] [.int .i64 0] (fun q => keyEq q [.str p] || H (strK q)) (fun q => bif keyEq q [.str p] then [.int .i64 t] else [.int .i64 (D (strK q))]))
 (mI (fun q => decide (q = p) || H q) (fun q => if q = p then t else D q)) := Res.le_map fun k hk => by
 rw [keyEq_str k hk p]
 by_cases hq : strK k = p
 · simp [hq]
 · simp [hq]
set_option maxHeartbeats 4000000 in
theorem z151 (f : Flt) (hl : f.plt.length ≤ 1000) (hs : srtP f.plt) : FSpec Tryz.prog 151 [flt f] [] (fun y r => y = .mp 14 ∧ r = [(14, mO (hend f.plt).out)]) := by
 refine spec_of hT (C := []) Tryz.func151 rfl Tryz.call151 rfl rfl rfl ?_
 conv => whnf
 repeat' (first | (refine br_intro ?_ ?_ <;> intro hb <;> (try simp only [brs] at hb) <;> conv => whnf) | (refine RegX.rule (id := 13) hT rfl [] oTToC151_13 (by decide +kernel) ?_; conv => whnf) | omega | (refine And.intro ?_ ?_; ((try dsimp only); first | omega | (refine szA rfl ?_; omega) | (refine szB rfl ?_; omega) | (unfold inI64; omega) | exact rfl | (simp only [lns] at *; omega) | decide | (unfold inI64; decide)); conv => whnf) | decide | assumption)
 refine LoopX.rule hT (C := []) (ι := Nat × (List UInt8 → Bool) × (List UInt8 → Int)) (fun (i, _, D) => i ≤ f.plt.length ∧ ∀ e ∈ (hall (f.plt.take i)).live, D e.plt = e.frm)
  (fun (i, H, D) => mkSt [(1, .ptr 1 0), (3, .ptr 3 0), (4, .ptr 4 0), (5, .ptr 5 0), (6, .ptr 6 0), (7, .fn 204 [.ptr 5 0, .ptr 4 0, .ptr 3 0, .ptr 6 0]), (20, .d (plts f.plt)), (21, .d (.int .i64 f.plt.length)), (22, .d (.int .i64 i))] ((1, fltC f) :: hN (hall (f.plt.take i)) H D))
  (fun (i, _, _) => f.plt.length - i) (0, (fun _ => false), fun _ => 0) ⟨by simp, fun e he => (List.not_mem_nil he).elim⟩ ?_ ?_
 · refine Entails.trans (Entails.toR 14 247 3 rfl (by decide)) ?_
   exact Entails.mk' [(1, 1), (3, 3), (4, 4), (5, 5), (6, 6), (14, 14), (15, 15), (16, 16), (17, 17)] rfl rfl ⟨lr, lr, lr, lr, lr, lr, lr, lr, lr, trivial⟩
    ⟨rr, rr, rr, rr, rr, Res.le_map (fun k hk => ⟨rfl, rfl⟩), Res.le_map (fun k hk => ⟨rfl, rfl⟩), Res.le_mapR (fun k hk => ⟨rfl, rfl, fun i hi => absurd hi (Nat.not_lt_zero _)⟩), Res.le_map (fun k hk => ⟨rfl, rfl⟩), trivial⟩
 rintro ⟨i, H, D⟩ ⟨p1, hD⟩
 have p1 : i ≤ f.plt.length := p1
 have hD : ∀ e ∈ (hall (f.plt.take i)).live, D e.plt = e.frm := hD
 have e1 : (i : Int).toNat = i := Int.toNat_natCast i
 have hlive := (hall_inv (f.plt.take i) (srtP_take hs i)).1
 have ha : (hall (f.plt.take i)).live.Pairwise (fun p q => clashP p q = false) := by rw [hlive]; exact liv_apart _
 have hlen : ∀ q, ((hall (f.plt.take i)).out q).length ≤ 1000 := fun q => by
  have := hall_len (f.plt.take i) q; rw [List.length_take] at this; omega
 rcases Nat.lt_or_ge i f.plt.length with hi | hi
 · have hsn := hall_take hi
   obtain ⟨S, hS⟩ : ∃ S, S = hall (f.plt.take i) := ⟨_, rfl⟩
   rw [← hS] at ha hlen hD hsn
   have ha1 := hmid_apart ha (f.plt.getD (i : Int).toNat plt0)
   have ha2 := hdrop_apart ha1 (f.plt.getD (i : Int).toNat plt0).plt (f.plt.getD (i : Int).toNat plt0).frm
   have hD1 : ∀ e ∈ (hmid S (f.plt.getD (i : Int).toNat plt0)).live, D e.plt = e.frm := fun e he => hD e (hmid_sub ha he).1
   have hlen1 : ∀ q, ((hmid S (f.plt.getD (i : Int).toNat plt0)).out q).length ≤ 2^20 := fun q => by
    have h1 := hall_len (f.plt.take i) q
    have h2 := hmid_len S (f.plt.getD (i : Int).toNat plt0) q
    rw [← hS, List.length_take] at h1
    omega
   obtain ⟨S2, hS2⟩ : ∃ S2, S2 = hdrop (hmid S (f.plt.getD (i : Int).toNat plt0)) (f.plt.getD (i : Int).toNat plt0).plt (f.plt.getD (i : Int).toNat plt0).frm := ⟨_, rfl⟩
   have hP : ∀ e ∈ S2.live, e.plt ≠ (f.plt.getD (i : Int).toNat plt0).plt := fun e he => (hdrop_sub (by rw [hS2] at he; exact he)).2
   have hQ : ∀ e ∈ S2.live, e.veh ≠ (f.plt.getD (i : Int).toNat plt0).veh := fun e he => (hmid_sub ha (hdrop_sub (by rw [hS2] at he; exact he)).1).2
   have hst : hall (f.plt.take (i + 1)) = ⟨S2.live ++ [(f.plt.getD (i : Int).toNat plt0)], S2.out⟩ := by rw [hsn, hS2, e1]; rfl
   have hD3 : ∀ e ∈ (hall (f.plt.take (i + 1))).live, (if e.plt = (f.plt.getD (i : Int).toNat plt0).plt then (f.plt.getD (i : Int).toNat plt0).frm else D e.plt) = e.frm := fun e he => by
    rw [hst] at he
    rcases List.mem_append.1 he with q | q
    · rw [if_neg (hP e q)]
      exact hD1 e (hdrop_sub (by rw [hS2] at q; exact q)).1
    · rw [List.mem_singleton] at q; rw [q, if_pos rfl]
   cases hf : findV S.live (f.plt.getD (i : Int).toNat plt0).veh with
   | none =>
     have hm : hmid S (f.plt.getD (i : Int).toNat plt0) = S := by unfold hmid; rw [hf]
     rw [hm] at hS2
     have e2 : qH S.live (strK [.str (f.plt.getD (i : Int).toNat plt0).veh]) = false := by show (findV S.live (f.plt.getD (i : Int).toNat plt0).veh).isSome = false; rw [hf]; rfl
     show wpx _ _ _ _ _ (mkSt _ ((1, fltC f) :: hN (hall (f.plt.take i)) H D))
     rw [← hS]
     conv => whnf
     repeat' (first | (refine CallX.of (z204 S H D ha hD (f.plt.getD (i : Int).toNat plt0).plt (f.plt.getD (i : Int).toNat plt0).frm (Nat.le_trans (hlen _) (by decide))) [(1000005, 5), (1000004, 4), (1000003, 3), (1000006, 6), (1000016, 16), (1000015, 15), (1000014, 14), (1000017, 17)] rfl ⟨lr, lr, lr, lr, lr, lr, trivial⟩ ⟨rr, rr, rr, rr, rr, rr, rr, rr, trivial⟩ rfl rfl ?_; rintro y rout ⟨rfl, rfl⟩; refine ⟨rfl, ?_⟩; conv => whnf) | (refine br_intro ?_ ?_ <;> intro hb <;> (try simp only [brs] at hb) <;> conv => whnf) | (refine RegX.rule (id := 13) hT rfl [] oTToC151_13 (by decide +kernel) ?_; conv => whnf) | omega | (refine And.intro ?_ ?_; ((try dsimp only); first | omega | (refine szA rfl ?_; omega) | (refine szB rfl ?_; omega) | (unfold inI64; omega) | exact rfl | (simp only [lns] at *; omega) | decide | (unfold inI64; decide)); conv => whnf) | decide | assumption)
     all_goals try (have q := ‹qH S.live (strK [DV.str (f.plt.getD (i : Int).toNat plt0).veh]) = true›; rw [e2] at q; cases q)
     all_goals try (exfalso; omega)
     rw [← hS2]
     exact ⟨(i + 1, (fun q => decide (q = (f.plt.getD (i : Int).toNat plt0).plt) || H q), fun q => if q = (f.plt.getD (i : Int).toNat plt0).plt then (f.plt.getD (i : Int).toNat plt0).frm else D q), ⟨by omega, hD3⟩, by show f.plt.length - (i + 1) < f.plt.length - i; omega,
      Entails.mk' [(1, 1), (3, 3), (4, 4), (5, 5), (6, 6), (14, 14), (15, 15), (16, 16), (17, 17)] rfl rfl ⟨lr, lr, lr, lr, lr, lr, lr, lr, lr, trivial⟩
       ⟨rr, rr, rr, rr, rr, (by rw [hst]; exact le_updP hP), le_updD H D (f.plt.getD (i : Int).toNat plt0).plt (f.plt.getD (i : Int).toNat plt0).frm, (by rw [hst]; exact rr), (by rw [hst]; exact le_updQ hQ), trivial⟩⟩
   | some e =>
     obtain ⟨he1, he2⟩ := findV_some hf
     have hm : hmid S (f.plt.getD (i : Int).toNat plt0) = hdrop S e.plt (f.plt.getD (i : Int).toNat plt0).frm := by unfold hmid; rw [hf]
     have e2 : qH S.live (strK [.str (f.plt.getD (i : Int).toNat plt0).veh]) = true := by show (findV S.live (f.plt.getD (i : Int).toNat plt0).veh).isSome = true; rw [hf]; rfl
     have e3 : (qV S.live (strK [.str (f.plt.getD (i : Int).toNat plt0).veh])) = e.plt := by show (match findV S.live (f.plt.getD (i : Int).toNat plt0).veh with | some e => e.plt | none => []) = e.plt; rw [hf]
     rw [← e3] at hm
     rw [hm] at hS2 ha1 hD1 hlen1
     show wpx _ _ _ _ _ (mkSt _ ((1, fltC f) :: hN (hall (f.plt.take i)) H D))
     rw [← hS]
     conv => whnf
     repeat' (first | (refine CallX.of (z204 S H D ha hD (qV S.live (strK [.str (f.plt.getD (i : Int).toNat plt0).veh])) (f.plt.getD (i : Int).toNat plt0).frm (Nat.le_trans (hlen _) (by decide))) [(1000005, 5), (1000004, 4), (1000003, 3), (1000006, 6), (1000016, 16), (1000015, 15), (1000014, 14), (1000017, 17)] rfl ⟨lr, lr, lr, lr, lr, lr, trivial⟩ ⟨rr, rr, rr, rr, rr, rr, rr, rr, trivial⟩ rfl rfl ?_; rintro y rout ⟨rfl, rfl⟩; refine ⟨rfl, ?_⟩; conv => whnf) | (refine CallX.of (z204 (hdrop S (qV S.live (strK [.str (f.plt.getD (i : Int).toNat plt0).veh])) (f.plt.getD (i : Int).toNat plt0).frm) H D ha1 hD1 (f.plt.getD (i : Int).toNat plt0).plt (f.plt.getD (i : Int).toNat plt0).frm (hlen1 _)) [(1000005, 5), (1000004, 4), (1000003, 3), (1000006, 6), (1000016, 16), (1000015, 15), (1000014, 14), (1000017, 17)] rfl ⟨lr, lr, lr, lr, lr, lr, trivial⟩ ⟨rr, rr, rr, rr, rr, rr, rr, rr, trivial⟩ rfl rfl ?_; rintro y rout ⟨rfl, rfl⟩; refine ⟨rfl, ?_⟩; conv => whnf) | (refine br_intro ?_ ?_ <;> intro hb <;> (try simp only [brs] at hb) <;> conv => whnf) | (refine RegX.rule (id := 13) hT rfl [] oTToC151_13 (by decide +kernel) ?_; conv => whnf) | omega | (refine And.intro ?_ ?_; ((try dsimp only); first | omega | (refine szA rfl ?_; omega) | (refine szB rfl ?_; omega) | (unfold inI64; omega) | exact rfl | (simp only [lns] at *; omega) | decide | (unfold inI64; decide)); conv => whnf) | decide | assumption)
     all_goals try (have q := ‹qH S.live (strK [DV.str (f.plt.getD (i : Int).toNat plt0).veh]) = false›; rw [e2] at q; cases q)
     all_goals try (exfalso; omega)
     rw [← hS2]
     exact ⟨(i + 1, (fun q => decide (q = (f.plt.getD (i : Int).toNat plt0).plt) || H q), fun q => if q = (f.plt.getD (i : Int).toNat plt0).plt then (f.plt.getD (i : Int).toNat plt0).frm else D q), ⟨by omega, hD3⟩, by show f.plt.length - (i + 1) < f.plt.length - i; omega,
      Entails.mk' [(1, 1), (3, 3), (4, 4), (5, 5), (6, 6), (14, 14), (15, 15), (16, 16), (17, 17)] rfl rfl ⟨lr, lr, lr, lr, lr, lr, lr, lr, lr, trivial⟩
       ⟨rr, rr, rr, rr, rr, (by rw [hst]; exact le_updP hP), le_updD H D (f.plt.getD (i : Int).toNat plt0).plt (f.plt.getD (i : Int).toNat plt0).frm, (by rw [hst]; exact rr), (by rw [hst]; exact le_updQ hQ), trivial⟩⟩
 have hil : i = f.plt.length := by omega
 subst hil
 rw [List.take_length] at ha hD hlen hlive
 show wpx _ _ _ _ _ (mkSt _ ((1, fltC f) :: hN (hall (f.plt.take f.plt.length)) H D))
 rw [List.take_length]
 conv => whnf
 repeat' (first | (refine br_intro ?_ ?_ <;> intro hb <;> (try simp only [brs] at hb) <;> conv => whnf) | (refine RegX.rule (id := 13) hT rfl [] oTToC151_13 (by decide +kernel) ?_; conv => whnf) | omega | (refine And.intro ?_ ?_; ((try dsimp only); first | omega | (refine szA rfl ?_; omega) | (refine szB rfl ?_; omega) | (unfold inI64; omega) | exact rfl | (simp only [lns] at *; omega) | decide | (unfold inI64; decide)); conv => whnf) | decide | assumption)
 all_goals try (exfalso; omega)
 have hE : ∀ m, m < f.plt.length → (f.plt.take (m + 1)).foldl (fun s x => hdrop s x.plt 5761440) (hall f.plt) = hdrop ((f.plt.take m).foldl (fun s x => hdrop s x.plt 5761440) (hall f.plt)) (f.plt.getD m plt0).plt 5761440 := fun m hm => by
  rw [take_snocD (d := plt0) hm, List.foldl_append]; rfl
 refine LoopX.rule hT (C := []) (ι := Nat) (fun m => m ≤ f.plt.length ∧ (((f.plt.take m).foldl (fun s x => hdrop s x.plt 5761440) (hall f.plt)).live.Pairwise (fun p q => clashP p q = false) ∧ (∀ e ∈ ((f.plt.take m).foldl (fun s x => hdrop s x.plt 5761440) (hall f.plt)).live, D e.plt = e.frm) ∧ ∀ q, (((f.plt.take m).foldl (fun s x => hdrop s x.plt 5761440) (hall f.plt)).out q).length + ((f.plt.take m).foldl (fun s x => hdrop s x.plt 5761440) (hall f.plt)).live.length ≤ 1000))
  (fun m => mkSt [(3, .ptr 3 0), (7, .fn 204 [.ptr 5 0, .ptr 4 0, .ptr 3 0, .ptr 6 0]), (62, .d (plts f.plt)), (63, .d (.int .i64 f.plt.length)), (64, .d (.int .i64 m))] (hN ((f.plt.take m).foldl (fun s x => hdrop s x.plt 5761440) (hall f.plt)) H D))
  (fun m => f.plt.length - m) 0 ⟨by simp, ha, hD, fun q => by have := hall_len f.plt q; show ((hall f.plt).out q).length + (hall f.plt).live.length ≤ 1000; omega⟩ ?_ ?_
 · exact Entails.mk' [(3, 3), (4, 4), (5, 5), (6, 6), (14, 14), (15, 15), (16, 16), (17, 17)] rfl rfl ⟨lr, lr, lr, lr, lr, trivial⟩ ⟨rr, rr, rr, rr, rr, rr, rr, rr, trivial⟩
 rintro m ⟨q1, q2, q3, q4⟩
 have e2 : (m : Int).toNat = m := Int.toNat_natCast m
 obtain ⟨S, hS⟩ : ∃ S, S = (f.plt.take m).foldl (fun s x => hdrop s x.plt 5761440) (hall f.plt) := ⟨_, rfl⟩
 rw [← hS] at q2 q3 q4
 show wpx _ _ _ _ _ (mkSt _ (hN ((f.plt.take m).foldl (fun s x => hdrop s x.plt 5761440) (hall f.plt)) H D))
 rw [← hS]
 rcases Nat.lt_or_ge m f.plt.length with hm | hm
 · have hE1 := hE m hm
   rw [← hS] at hE1
   conv => whnf
   repeat' (first | (refine CallX.of (z204 S H D q2 q3 (f.plt.getD (m : Int).toNat plt0).plt 5761440 (by have := q4 (f.plt.getD (m : Int).toNat plt0).plt; omega)) [(1000005, 5), (1000004, 4), (1000003, 3), (1000006, 6), (1000016, 16), (1000015, 15), (1000014, 14), (1000017, 17)] rfl ⟨lr, lr, lr, lr, lr, lr, trivial⟩ ⟨rr, rr, rr, rr, rr, rr, rr, rr, trivial⟩ rfl rfl ?_; rintro y rout ⟨rfl, rfl⟩; refine ⟨rfl, ?_⟩; conv => whnf) | (refine br_intro ?_ ?_ <;> intro hb <;> (try simp only [brs] at hb) <;> conv => whnf) | (refine RegX.rule (id := 13) hT rfl [] oTToC151_13 (by decide +kernel) ?_; conv => whnf) | omega | (refine And.intro ?_ ?_; ((try dsimp only); first | omega | (refine szA rfl ?_; omega) | (refine szB rfl ?_; omega) | (unfold inI64; omega) | exact rfl | (simp only [lns] at *; omega) | decide | (unfold inI64; decide)); conv => whnf) | decide | assumption)
   all_goals try (exfalso; omega)
   refine ⟨m + 1, ⟨by omega, by rw [hE1]; exact hdrop_apart q2 _ _, by rw [hE1]; exact fun e he => q3 e (hdrop_sub he).1, by rw [hE1]; exact fun q => Nat.le_trans (hdrop_len S _ _ q) (q4 q)⟩, by omega, ?_⟩
   rw [hE1, e2]
   exact Entails.mk' [(3, 3), (4, 4), (5, 5), (6, 6), (14, 14), (15, 15), (16, 16), (17, 17)] rfl rfl ⟨lr, lr, lr, lr, lr, trivial⟩ ⟨rr, rr, rr, rr, rr, rr, rr, rr, trivial⟩
 · have hml : m = f.plt.length := by omega
   rw [hml, List.take_length] at hS
   conv => whnf
   repeat' (first | (refine br_intro ?_ ?_ <;> intro hb <;> (try simp only [brs] at hb) <;> conv => whnf) | (refine RegX.rule (id := 13) hT rfl [] oTToC151_13 (by decide +kernel) ?_; conv => whnf) | omega | (refine And.intro ?_ ?_; ((try dsimp only); first | omega | (refine szA rfl ?_; omega) | (refine szB rfl ?_; omega) | (unfold inI64; omega) | exact rfl | (simp only [lns] at *; omega) | decide | (unfold inI64; decide)); conv => whnf) | decide | assumption)
   all_goals try (exfalso; omega)
   refine .ret _ ?_
   conv => whnf
   exact ⟨[(14, mO (hend f.plt).out)], ⟨rfl, rfl⟩, by rw [hS]; exact rr, trivial⟩
abbrev Win := Int × Int
def lastE (x : Leg) : Int := if x.inn.tm = -1 then 5761440 else x.inn.tm
def onL (v : List UInt8) (x : Leg) (t : Int) : Bool := decide (x.veh = v) && (decide (x.out.tm ≤ t) && decide (t < lastE x))
def occ (v : List UInt8) (h : Hir) (t : Int) : Bool := h.legs.any fun x => onL v x t
open Classical in
def oTHiF70_15 : List (Nat × List Nat) := [(0, []), (1, []), (2, [0, 1]), (3, [0, 1, 2]), (4, [0, 1, 2]), (5, [0, 1, 2]), (6, [0, 1]), (7, []), (8, [])]
def oTHiF70_18 : List (Nat × List Nat) := [(0, []), (1, []), (2, [0, 1]), (3, [0, 1, 2]), (4, [0, 1, 2]), (5, [0, 1, 2]), (6, [0, 1]), (7, []), (8, [])]
def oTHiF70_6 : List (Nat × List Nat) := [(0, []), (1, []), (2, [0, 1]), (3, [0, 1, 2]), (4, [0, 1, 2]), (5, [0, 1, 2]), (6, [0, 1]), (7, []), (8, [])]
set_option maxHeartbeats 4000000 in
theorem sHir (n : Nat) (L : Nat → Int) (hL : Rok n L) (a : Int) (h0 : 0 ≤ a) (ha : a ≤ 2^36) :
 FSpec Tryz.prog 70 [.ptr 1000000 0] [(1000000, strm n L a)] (fun y r => (∃ h : Hir, hiB 3 h ∧ y = .agg ((hiF h).map .d)) ∧ Moved n L a 500 r) := by
 refine spec_of hT (C := []) Tryz.func70 rfl Tryz.call70 rfl rfl rfl ?_
 conv => whnf
 repeat' (first | (refine CallX.of (s33 n L hL _ ?_ ?_ [0, 100, 1440] ?_ ?_) [(1000000, 1000000)] rfl ⟨lr, SV.le_lit rfl rfl, trivial⟩ ⟨rr, trivial⟩ rfl rfl ?_; rotate_right; rintro x rout ⟨⟨u1, hu1, rfl⟩, ⟨c, c1, c2, rfl⟩⟩; have hw1 := pkD hu1 (by decide); refine ⟨rfl, ?_⟩; conv => whnf) | (refine CallX.of (sRh n L hL _ ?_ ?_ [104, 49] (by decide) u1 hw1.1 ?_) [(1000000, 1000000)] rfl ⟨lr, lr, lr, trivial⟩ ⟨rr, trivial⟩ rfl rfl ?_; rotate_right; rintro x rout ⟨⟨h, hh, hhl, rfl⟩, ⟨c, c1, c2, rfl⟩⟩; refine ⟨rfl, ?_⟩; conv => whnf) | (refine CallX.of (s84 n L hL _ ?_ ?_ _ ?_) [(1000000, 1000000)] rfl ⟨lr, lr, trivial⟩ ⟨rr, trivial⟩ rfl rfl ?_; rotate_right; rintro x rout ⟨⟨w, rfl⟩, ⟨c, c1, c2, rfl⟩⟩; refine ⟨rfl, ?_⟩; conv => whnf) | (refine br_intro ?_ ?_ <;> intro hb <;> (try simp only [brs] at hb) <;> conv => whnf) | (refine RegX.rule (id := 15) hT rfl [] oTHiF70_15 (by decide +kernel) ?_; conv => whnf) | (refine RegX.rule (id := 18) hT rfl [] oTHiF70_18 (by decide +kernel) ?_; conv => whnf) | (refine RegX.rule (id := 6) hT rfl [] oTHiF70_6 (by decide +kernel) ?_; conv => whnf) | omega | (refine And.intro ?_ ?_; ((try dsimp only); first | omega | (refine szA rfl ?_; omega) | (refine szB rfl ?_; omega) | (unfold inI64; omega) | exact rfl | (simp only [lns] at *; omega) | decide | (unfold inI64; decide)); conv => whnf) | decide | assumption)
 · refine .ret _ ?_
   conv => whnf
   exact ⟨[(1000000, strm n L _)], ⟨⟨h, hh, rfl⟩, _, by omega, by omega, rfl⟩, rr, trivial⟩
 have hn : 1 ≤ h.legs.length := hhl (by decide)
 have hl3 := hh.2.2.1
 refine CallX.of (z216 h.legs hn (by omega)) [(7, 30)] rfl ⟨lr, trivial⟩ trivial rfl rfl ?_
 rintro x rout ⟨rfl, rfl⟩
 refine ⟨rfl, ?_⟩
 conv => whnf
 repeat' (first | (refine CallX.of (s86 n L hL _ ?_ ?_ 6 ?_) [(1000000, 1000000)] rfl ⟨lr, lr, trivial⟩ ⟨rr, trivial⟩ rfl rfl ?_; rotate_right; rintro x rout ⟨⟨z, hz1, hz2, hz3, rfl⟩, ⟨c, c1, c2, rfl⟩⟩; refine ⟨rfl, ?_⟩; conv => whnf) | (refine br_intro ?_ ?_ <;> intro hb <;> (try simp only [brs] at hb) <;> conv => whnf) | (refine RegX.rule (id := 15) hT rfl [] oTHiF70_15 (by decide +kernel) ?_; conv => whnf) | (refine RegX.rule (id := 18) hT rfl [] oTHiF70_18 (by decide +kernel) ?_; conv => whnf) | (refine RegX.rule (id := 6) hT rfl [] oTHiF70_6 (by decide +kernel) ?_; conv => whnf) | omega | (refine And.intro ?_ ?_; ((try dsimp only); first | omega | (refine szA rfl ?_; omega) | (refine szB rfl ?_; omega) | (unfold inI64; omega) | exact rfl | (simp only [lns] at *; omega) | decide | (unfold inI64; decide)); conv => whnf) | decide | assumption)
 · repeat' (first | (refine CallX.of (s15 n L hL _ ?_ ?_ [[104, 49], [], [65]] (by simp) (by simp)) [(1000000, 1000000)] rfl ⟨lr, SV.le_lit rfl rfl, trivial⟩ ⟨rr, trivial⟩ rfl rfl ?_; rotate_right; rintro x rout ⟨⟨u2, hu2, rfl⟩, ⟨c, c1, c2, rfl⟩⟩; have hw2 := mem_len hu2 rfl; refine ⟨rfl, ?_⟩; conv => whnf) | (refine CallX.of (s15 n L hL _ ?_ ?_ [[97, 110, 110], []] (by simp) (by simp)) [(1000000, 1000000)] rfl ⟨lr, SV.le_lit rfl rfl, trivial⟩ ⟨rr, trivial⟩ rfl rfl ?_; rotate_right; rintro x rout ⟨⟨u3, hu3, rfl⟩, ⟨c, c1, c2, rfl⟩⟩; have hw3 := mem_len hu3 rfl; refine ⟨rfl, ?_⟩; conv => whnf) | (refine br_intro ?_ ?_ <;> intro hb <;> (try simp only [brs] at hb) <;> conv => whnf) | (refine RegX.rule (id := 15) hT rfl [] oTHiF70_15 (by decide +kernel) ?_; conv => whnf) | (refine RegX.rule (id := 18) hT rfl [] oTHiF70_18 (by decide +kernel) ?_; conv => whnf) | (refine RegX.rule (id := 6) hT rfl [] oTHiF70_6 (by decide +kernel) ?_; conv => whnf) | omega | (refine And.intro ?_ ?_; ((try dsimp only); first | omega | (refine szA rfl ?_; omega) | (refine szB rfl ?_; omega) | (unfold inI64; omega) | exact rfl | (simp only [lns] at *; omega) | decide | (unfold inI64; decide)); conv => whnf) | decide | assumption)
   refine .freeze _ 30 162 9 _ _ rfl (.ent _ _ (Entails.froCell 2 30 9 _ 4 _ rfl rfl rfl) (.weak _ ?_))
   conv => whnf
   exact ⟨_, [(1000000, strm n L _)], lr, ⟨⟨⟨u2, u3, h.frm, h.to, h.legs⟩, ⟨hw2, hw3, hl3, hh.2.2.2⟩, rfl⟩, _, by omega, by omega, rfl⟩, rr, trivial⟩
 · repeat' (first | (refine CallX.of (sTim n L hL _ ?_ ?_) [(1000000, 1000000)] rfl ⟨lr, trivial⟩ ⟨rr, trivial⟩ rfl rfl ?_; rotate_right; rintro x rout ⟨⟨t1, t2, rfl⟩, ⟨c3, c4, c5, rfl⟩⟩; refine ⟨rfl, ?_⟩; conv => whnf) | (refine br_intro ?_ ?_ <;> intro hb <;> (try simp only [brs] at hb) <;> conv => whnf) | (refine RegX.rule (id := 15) hT rfl [] oTHiF70_15 (by decide +kernel) ?_; conv => whnf) | (refine RegX.rule (id := 18) hT rfl [] oTHiF70_18 (by decide +kernel) ?_; conv => whnf) | (refine RegX.rule (id := 6) hT rfl [] oTHiF70_6 (by decide +kernel) ?_; conv => whnf) | omega | (refine And.intro ?_ ?_; ((try dsimp only); first | omega | (refine szA rfl ?_; omega) | (refine szB rfl ?_; omega) | (unfold inI64; omega) | exact rfl | (simp only [lns] at *; omega) | decide | (unfold inI64; decide)); conv => whnf) | decide | assumption)
   refine .freeze _ 30 162 9 _ _ rfl (.ent _ _ (Entails.froCell 2 30 9 _ 4 _ rfl rfl rfl) (.weak _ ?_))
   conv => whnf
   exact ⟨_, [(1000000, strm n L _)], lr, ⟨⟨⟨h.key, h.drv, t1, t2, h.legs⟩, ⟨hh.1, hh.2.1, hl3, hh.2.2.2⟩, rfl⟩, _, by omega, by omega, rfl⟩, rr, trivial⟩
 · refine .weak _ ?_
   conv => whnf
   exact ⟨.agg ((hiF ⟨h.key, h.drv, h.frm, h.to, []⟩).map .d), [(1000000, strm n L _)], SV.le_agg ⟨lr, lr, lr, lr, SV.le_nilS, trivial⟩, ⟨⟨⟨h.key, h.drv, h.frm, h.to, []⟩, ⟨hh.1, hh.2.1, by simp, fun x hx => by cases hx⟩, rfl⟩, _, by omega, by omega, rfl⟩, rr, trivial⟩
 · repeat' (first | (refine CallX.of (s86 n L hL _ ?_ ?_ _ ?_) [(1000000, 1000000)] rfl ⟨lr, lr, trivial⟩ ⟨rr, trivial⟩ rfl rfl ?_; rotate_right; rintro x rout ⟨⟨j, hj1, hj2, hj3, rfl⟩, ⟨c, c1, c2, rfl⟩⟩; refine ⟨rfl, ?_⟩; conv => whnf) | (refine CallX.of (s15 n L hL _ ?_ ?_ [[118, 49], [], [65]] (by simp) (by simp)) [(1000000, 1000000)] rfl ⟨lr, SV.le_lit rfl rfl, trivial⟩ ⟨rr, trivial⟩ rfl rfl ?_; rotate_right; rintro x rout ⟨⟨u2, hu2, rfl⟩, ⟨c, c1, c2, rfl⟩⟩; have hw2 := mem_len hu2 rfl; refine ⟨rfl, ?_⟩; conv => whnf) | (refine CallX.of (s104 n L hL _ ?_ ?_ 0 500 ?_ ?_ ?_) [(1000000, 1000000)] rfl ⟨lr, lr, lr, trivial⟩ ⟨rr, trivial⟩ rfl rfl ?_; rotate_right; rintro x rout ⟨⟨u3, hk1, hk2, rfl⟩, ⟨c, c1, c2, rfl⟩⟩; refine ⟨rfl, ?_⟩; conv => whnf) | (refine br_intro ?_ ?_ <;> intro hb <;> (try simp only [brs] at hb) <;> conv => whnf) | (refine RegX.rule (id := 15) hT rfl [] oTHiF70_15 (by decide +kernel) ?_; conv => whnf) | (refine RegX.rule (id := 18) hT rfl [] oTHiF70_18 (by decide +kernel) ?_; conv => whnf) | (refine RegX.rule (id := 6) hT rfl [] oTHiF70_6 (by decide +kernel) ?_; conv => whnf) | omega | (refine And.intro ?_ ?_; ((try dsimp only); first | omega | (refine szA rfl ?_; omega) | (refine szB rfl ?_; omega) | (unfold inI64; omega) | exact rfl | (simp only [lns] at *; omega) | decide | (unfold inI64; decide)); conv => whnf) | decide | assumption)
   refine .freeze _ 30 162 9 _ _ rfl (.ent _ _ (Entails.froCell 2 30 9 _ 4 _ rfl rfl rfl) (.weak _ ?_))
   conv => whnf
   exact ⟨.agg ((hiF ⟨h.key, h.drv, h.frm, h.to, updL (updL h.legs j.toNat lg0 (fun y => { y with veh := u2 })) j.toNat lg0 (fun y => { y with out := { y.out with tm := u3 } })⟩).map .d), [(1000000, strm n L _)],
    SV.le_agg ⟨lr, lr, lr, lr, SV.le_upd2 (f := lgF) (d := lg0) (fun y : Leg => { y with veh := u2 }) (fun y => { y with out := { y.out with tm := u3 } }) (fun _ => rfl) (fun _ => rfl), trivial⟩,
    ⟨⟨⟨h.key, h.drv, h.frm, h.to, updL (updL h.legs j.toNat lg0 (fun y => { y with veh := u2 })) j.toNat lg0 (fun y => { y with out := { y.out with tm := u3 } })⟩, ⟨hh.1, hh.2.1, (by simp; omega), (allK_upd (g := fun y : Leg => { y with out := { y.out with tm := u3 } }) (allK_upd (g := fun y : Leg => { y with veh := u2 }) (k := 3) ⟨hl3, hh.2.2.2⟩ (fun y hy => ⟨hw2, hy.2.1, hy.2.2⟩)) (fun y hy => ⟨hy.1, hy.2.1, hy.2.2⟩)).2⟩, rfl⟩, _, by omega, by omega, rfl⟩, rr, trivial⟩
 · repeat' (first | (refine CallX.of (s86 n L hL _ ?_ ?_ _ ?_) [(1000000, 1000000)] rfl ⟨lr, lr, trivial⟩ ⟨rr, trivial⟩ rfl rfl ?_; rotate_right; rintro x rout ⟨⟨j, hj1, hj2, hj3, rfl⟩, ⟨c, c1, c2, rfl⟩⟩; refine ⟨rfl, ?_⟩; conv => whnf) | (refine CallX.of (s33 n L hL _ ?_ ?_ [-1, 0, 100, 5000] ?_ ?_) [(1000000, 1000000)] rfl ⟨lr, SV.le_lit rfl rfl, trivial⟩ ⟨rr, trivial⟩ rfl rfl ?_; rotate_right; rintro x rout ⟨⟨u2, hu2, rfl⟩, ⟨c, c1, c2, rfl⟩⟩; have hw2 : -1 ≤ u2 ∧ u2 ≤ 5000 := (by simp at hu2; omega); refine ⟨rfl, ?_⟩; conv => whnf) | (refine CallX.of (sRdg n L hL _ ?_ ?_ u2 ?_ ?_) [(1000000, 1000000)] rfl ⟨lr, lr, trivial⟩ ⟨rr, trivial⟩ rfl rfl ?_; rotate_right; rintro x rout ⟨⟨ri, hri, rfl⟩, ⟨c3, c4, c5, rfl⟩⟩; refine ⟨rfl, ?_⟩; conv => whnf) | (refine br_intro ?_ ?_ <;> intro hb <;> (try simp only [brs] at hb) <;> conv => whnf) | (refine RegX.rule (id := 15) hT rfl [] oTHiF70_15 (by decide +kernel) ?_; conv => whnf) | (refine RegX.rule (id := 18) hT rfl [] oTHiF70_18 (by decide +kernel) ?_; conv => whnf) | (refine RegX.rule (id := 6) hT rfl [] oTHiF70_6 (by decide +kernel) ?_; conv => whnf) | omega | (refine And.intro ?_ ?_; ((try dsimp only); first | omega | (refine szA rfl ?_; omega) | (refine szB rfl ?_; omega) | (unfold inI64; omega) | exact rfl | (simp only [lns] at *; omega) | decide | (unfold inI64; decide)); conv => whnf) | decide | assumption)
   refine .freeze _ 30 162 9 _ _ rfl (.ent _ _ (Entails.froCell 2 30 9 _ 4 _ rfl rfl rfl) (.weak _ ?_))
   conv => whnf
   exact ⟨.agg ((hiF ⟨h.key, h.drv, h.frm, h.to, updL h.legs j.toNat lg0 (fun y => { y with inn := ri })⟩).map .d), [(1000000, strm n L _)],
    SV.le_agg ⟨lr, lr, lr, lr, SV.le_ro (by simp) (fun i hi => rows_updG (f := lgF) (d := lg0) (fun _ _ => rfl) (fun y : Leg => { y with inn := ri }) (fun _ => rfl) i (by simpa using hi)), trivial⟩,
    ⟨⟨⟨h.key, h.drv, h.frm, h.to, updL h.legs j.toNat lg0 (fun y => { y with inn := ri })⟩, ⟨hh.1, hh.2.1, (by simp; omega), (allK_upd (g := fun y : Leg => { y with inn := ri }) (k := 3) ⟨hl3, hh.2.2.2⟩ (fun y hy => ⟨hy.1, hy.2.1, hri⟩)).2⟩, rfl⟩, _, by omega, by omega, rfl⟩, rr, trivial⟩
 · repeat' (first | (refine CallX.of (s86 n L hL _ ?_ ?_ _ ?_) [(1000000, 1000000)] rfl ⟨lr, lr, trivial⟩ ⟨rr, trivial⟩ rfl rfl ?_; rotate_right; rintro x rout ⟨⟨j, hj1, hj2, hj3, rfl⟩, ⟨c, c1, c2, rfl⟩⟩; refine ⟨rfl, ?_⟩; conv => whnf) | (refine CallX.of (s33 n L hL _ ?_ ?_ [0, 0, 1] ?_ ?_) [(1000000, 1000000)] rfl ⟨lr, SV.le_lit rfl rfl, trivial⟩ ⟨rr, trivial⟩ rfl rfl ?_; rotate_right; rintro x rout ⟨⟨u2, hu2, rfl⟩, ⟨c, c1, c2, rfl⟩⟩; refine ⟨rfl, ?_⟩; conv => whnf) | (refine br_intro ?_ ?_ <;> intro hb <;> (try simp only [brs] at hb) <;> conv => whnf) | (refine RegX.rule (id := 15) hT rfl [] oTHiF70_15 (by decide +kernel) ?_; conv => whnf) | (refine RegX.rule (id := 18) hT rfl [] oTHiF70_18 (by decide +kernel) ?_; conv => whnf) | (refine RegX.rule (id := 6) hT rfl [] oTHiF70_6 (by decide +kernel) ?_; conv => whnf) | omega | (refine And.intro ?_ ?_; ((try dsimp only); first | omega | (refine szA rfl ?_; omega) | (refine szB rfl ?_; omega) | (unfold inI64; omega) | exact rfl | (simp only [lns] at *; omega) | decide | (unfold inI64; decide)); conv => whnf) | decide | assumption)
   refine .freeze _ 30 162 9 _ _ rfl (.ent _ _ (Entails.froCell 2 30 9 _ 4 _ rfl rfl rfl) (.weak _ ?_))
   conv => whnf
   exact ⟨.agg ((hiF ⟨h.key, h.drv, h.frm, h.to, updL h.legs j.toNat lg0 (fun y => { y with inn := ⟨-1, [], u2, 0⟩ })⟩).map .d), [(1000000, strm n L _)],
    SV.le_agg ⟨lr, lr, lr, lr, SV.le_ro (by simp) (fun i hi => rows_updG (f := lgF) (d := lg0) (fun _ _ => rfl) (fun y : Leg => { y with inn := ⟨-1, [], u2, 0⟩ }) (fun _ => rfl) i (by simpa using hi)), trivial⟩,
    ⟨⟨⟨h.key, h.drv, h.frm, h.to, updL h.legs j.toNat lg0 (fun y => { y with inn := ⟨-1, [], u2, 0⟩ })⟩, ⟨hh.1, hh.2.1, (by simp; omega), (allK_upd (g := fun y : Leg => { y with inn := ⟨-1, [], u2, 0⟩ }) (k := 3) ⟨hl3, hh.2.2.2⟩ (fun y hy => ⟨hy.1, hy.2.1, by simp [rgB]⟩)).2⟩, rfl⟩, _, by omega, by omega, rfl⟩, rr, trivial⟩
def k4 : List (List UInt8) := [[104, 49], [104, 50], [104, 51], [104, 52]]
set_option maxHeartbeats 4000000 in
theorem sHirs (n : Nat) (L : Nat → Int) (hL : Rok n L) (a : Int) (h0 : 0 ≤ a) (ha : a ≤ 2^35) (m : Int) (hm0 : 0 ≤ m) (hm : m ≤ 4) :
 FSpec Tryz.prog 11 [.ptr 1000000 0, .d (.int .i64 m)] [(1000000, strm n L a)] (fun y r => (∃ l : List Hir, allK (hiB 3) 5 l ∧ y = .d (hirs l)) ∧ Moved n L a 3000 r) := by
 refine spec_of hT (C := []) Tryz.func11 rfl Tryz.call11 rfl rfl rfl ?_
 conv => whnf
 repeat' (first | (refine And.intro (show (0 : Int) ≤ 0 ∧ 0 ≤ min m 4 ∧ min m 4 ≤ ((4 : Nat) : Int) from by omega) ?_; conv => whnf) | (refine br_intro ?_ ?_ <;> intro hb <;> (try simp only [brs] at hb) <;> conv => whnf) | omega | (refine And.intro ?_ ?_; ((try dsimp only); first | omega | (refine szA rfl ?_; omega) | (refine szB rfl ?_; omega) | (unfold inI64; omega) | exact rfl | (simp only [lns] at *; omega) | decide | (unfold inI64; decide)); conv => whnf) | decide | assumption)
 refine LoopX.rule hT (C := []) (ι := Int × List Hir × Nat) (fun (b, l, i) => (a ≤ b ∧ b ≤ a + 500 * i ∧ (i : Int) ≤ m) ∧ allK (hiB 3) i l)
  (fun (b, l, i) => mkSt [(0, .ptr 1000000 0), (5, .buf 5), (11, .d (strs (k4.take m.toNat))), (12, .d (.int .i64 m)), (13, .d (.int .i64 i))] [(1000000, strm n L b), (5, seqB 130 5 hiF hi0 l)])
  (fun (_, _, i) => (m - i).toNat) (a, [], 0) ⟨⟨by simp, by simp, by simpa using hm0⟩, ⟨by simp, by simp⟩⟩ ?_ ?_
 · refine (Entails.nil 5 5 130 5 (rowF hiF hi0 []) rfl rfl (by decide)).trans (Entails.mk' [(1000000, 1000000), (5, 5)] rfl rfl ⟨lr, lr, ?_, SV.le_int (by first | omega | (show (((min m 4 - 0).toNat : Nat) : Int) = m; omega) | (show ((min m 4).toNat : Int) = m; omega)), lr, trivial⟩ ⟨rr, rr, trivial⟩)
   have h4 : (k4.take m.toNat).length = m.toNat := by rw [List.length_take]; show min m.toNat 4 = _; omega
   have hm4 : (min m 4 - 0).toNat = m.toNat := by omega
   refine SV.le_ro (by rw [h4]; first | exact hm4 | omega) (fun i hi => ?_)
   have hi : i < m.toNat := by first | omega | (rw [← hm4]; exact hi)
   have hk : rowF sF [] (k4.take m.toNat) i = rowF sF [] k4 i := by
    simp only [rowF]
    rw [List.getD_eq_getElem?_getD, List.getElem?_take_of_lt hi, ← List.getD_eq_getElem?_getD]
   rw [hk]
   have : i = 0 ∨ i = 1 ∨ i = 2 ∨ i = 3 := by omega
   rcases this with rfl | rfl | rfl | rfl <;> rfl
 rintro ⟨b, l, i⟩ ⟨⟨p1, p2, p3⟩, p4⟩
 have p1 : a ≤ b := p1
 have p2 : b ≤ a + 500 * i := p2
 have p3 : (i : Int) ≤ m := p3
 have p4 : allK (hiB 3) i l := p4
 have hl1 := p4.1
 have h4 : (k4.take m.toNat).length = m.toNat := by rw [List.length_take]; show min m.toNat 4 = _; omega
 have hkl : ((k4.take m.toNat).getD (i : Int).toNat []).length ≤ 8 := by
  by_cases q : (i : Int).toNat < (k4.take m.toNat).length
  · have := List.mem_of_mem_take (getD_mem (x := []) q)
    exact mem_len this rfl
  · rw [List.getD_eq_getElem?_getD, List.getElem?_eq_none (by omega)]; simp
 conv => whnf
 repeat' (first | (refine CallX.of (s33 n L hL _ ?_ ?_ [0, 50, 100, 100, 300, 1000] ?_ ?_) [(1000000, 1000000)] rfl ⟨lr, SV.le_lit rfl rfl, trivial⟩ ⟨rr, trivial⟩ rfl rfl ?_; rotate_right; rintro x rout ⟨⟨u1, hu1, rfl⟩, ⟨c, c1, c2, rfl⟩⟩; have hw1 := pkD hu1 (by decide); refine ⟨rfl, ?_⟩; conv => whnf) | (refine CallX.of (sRh n L hL _ ?_ ?_ ((k4.take m.toNat).getD (i : Int).toNat []) hkl u1 hw1.1 ?_) [(1000000, 1000000)] rfl ⟨lr, lr, lr, trivial⟩ ⟨rr, trivial⟩ rfl rfl ?_; rotate_right; rintro x rout ⟨⟨h, hh, hhl, rfl⟩, ⟨c, c1, c2, rfl⟩⟩; refine ⟨rfl, ?_⟩; conv => whnf) | (refine br_intro ?_ ?_ <;> intro hb <;> (try simp only [brs] at hb) <;> conv => whnf) | omega | (refine And.intro ?_ ?_; ((try dsimp only); first | omega | (refine szA rfl ?_; omega) | (refine szB rfl ?_; omega) | (unfold inI64; omega) | exact rfl | (simp only [lns] at *; omega) | decide | (unfold inI64; decide)); conv => whnf) | decide | assumption)
 · refine ⟨(_, l ++ [h], i + 1), ⟨⟨by omega, ?_, by omega⟩, allK_snoc p4 (by omega) hh⟩, (show (m - ((i + 1 : Nat) : Int)).toNat < (m - (i : Int)).toNat by omega), Entails.mk' [(1000000, 1000000), (5, 25)] rfl rfl ⟨lr, lr, lr, lr, lr, trivial⟩ ⟨rr, Res.le_snocF rfl, trivial⟩⟩
   show _ ≤ a + 500 * ((i + 1 : Nat) : Int)
   omega
 repeat' (first | (refine CallX.of (s84 n L hL _ ?_ ?_ _ ?_) [(1000000, 1000000)] rfl ⟨lr, lr, trivial⟩ ⟨rr, trivial⟩ rfl rfl ?_; rotate_right; rintro x rout ⟨⟨w, rfl⟩, ⟨c, c1, c2, rfl⟩⟩; refine ⟨rfl, ?_⟩; conv => whnf) | (refine CallX.of (sHir n L hL _ ?_ ?_) [(1000000, 1000000)] rfl ⟨lr, trivial⟩ ⟨rr, trivial⟩ rfl rfl ?_; rotate_right; rintro x rout ⟨⟨h, hh, rfl⟩, ⟨c, c1, c2, rfl⟩⟩; refine ⟨rfl, ?_⟩; conv => whnf) | (refine br_intro ?_ ?_ <;> intro hb <;> (try simp only [brs] at hb) <;> conv => whnf) | omega | (refine And.intro ?_ ?_; ((try dsimp only); first | omega | (refine szA rfl ?_; omega) | (refine szB rfl ?_; omega) | (unfold inI64; omega) | exact rfl | (simp only [lns] at *; omega) | decide | (unfold inI64; decide)); conv => whnf) | decide | assumption)
 · refine .freeze _ 33 130 5 _ _ rfl (.weak _ ?_)
   conv => whnf
   exact ⟨_, [(1000000, strm n L _)], SV.le_snocF rfl, ⟨⟨l ++ [h], allK_snoc (allK_le p4 (by omega : i ≤ 4)) (by omega) hh, rfl⟩, _, by omega, by omega, rfl⟩, rr, trivial⟩
 · refine .freeze _ 5 130 5 _ _ rfl (.weak _ ?_)
   conv => whnf
   exact ⟨_, [(1000000, strm n L _)], lr, ⟨⟨l, allK_le p4 (by omega), rfl⟩, _, by omega, by omega, rfl⟩, rr, trivial⟩
open Classical in
theorem hirs_seq {l : List Hir} (h : hirsE l = 0) : (∀ g ∈ l, hirE g = 0) ∧ ∀ i, 0 < i → i < l.length → strLe (l.getD i hi0).key (l.getD (i - 1) hi0).key = false := by
 unfold hirsE at h
 split at h
 · omega
 have hall := firstAt_all h
 refine ⟨fun g hg => ?_, fun i h0 hi => ?_⟩
 · obtain ⟨i, hi, rfl⟩ := mem_getD (d := hi0) hg
   have := hall i hi
   unfold hirsE1 at this
   split at this
   · omega
   · rename_i q; exact Classical.not_not.1 q
 · have := hall i hi
   unfold hirsE1 at this
   split at this
   · omega
   · split at this
     · omega
     · rename_i q
       cases e : strLe (l.getD i hi0).key (l.getD (i - 1) hi0).key with
       | false => rfl
       | true => exact absurd ⟨h0, e⟩ q
end Go.Proofs.YtcjfniddeibbhaaGreatDoor
namespace Go.Proofs
open Go.Shelf
def Tryz.lays106_ren : Go.Shelf.Ren := ⟨fun | 106 => 106 | 213 => 171 | 265 => 238 | n => n, fun | 9 => 9 | 3 => 3 | n => n, fun | n => n⟩
theorem Tryz.lays106 : Go.Proofs.Lays.n106 Tryz.prog Tryz.lays106_ren := {
 mixed := by kernel_rfl
 f106 := Tryz.func106.trans (congrArg some (by kernel_rfl))
 f213 := Tryz.func171.trans (congrArg some (by kernel_rfl))
 f265 := Tryz.func238.trans (congrArg some (by kernel_rfl))
 t3 := Tryz.underlying3
 a3 := Tryz.isAgg3
 z3 := Tryz.sizeOf3
 v3 := Tryz.zeroValue3
 t9 := Tryz.underlying9
 a9 := Tryz.isAgg9
 z9 := Tryz.sizeOf9
 v9 := Tryz.zeroValue9 }
end Go.Proofs
set_option maxRecDepth 20000
namespace Go.Proofs.YtcjfniddeibbhaaGreatDoor
open Go Go.Eng Go.RowKit
theorem cmpB_S : ∀ (a b : List UInt8), Lib.compareBytes a b = cmpS a b := by
 intro a
 induction a with
 | nil => intro b; cases b <;> simp [Lib.compareBytes, cmpS, Op.bytesLess]
 | cons x a ih =>
   intro b
   cases b with
   | nil => simp [Lib.compareBytes, cmpS, Op.bytesLess]
   | cons y b =>
     have := ih b
     unfold cmpS at this ⊢
     simp only [Lib.compareBytes, Op.bytesLess]
     grind
theorem s190 (a b : List UInt8) : FSpec Tryz.prog 106 [.d (.str a), .d (.str b)] [] (fun x r => x = .d (.int .i64 (cmpS a b)) ∧ r = []) := by
 refine FSpec.ofBelow Tryz.call106 (fun G β w vs _ hl hd => ?_)
 match vs, hl with
 | [u, v], _ =>
   have hu := hd 0 _ _ rfl rfl
   have hv := hd 1 _ _ rfl rfl
   cases hu with | d _ _ hu => cases hu with | str _ =>
   cases hv with | d _ _ hv => cases hv with | str _ =>
   refine ⟨.int .i64 (Lib.compareBytes a b), fun G β => ?_, (Go.Proofs.Any.strings_Compare Go.Proofs.Tryz.lays106 ⟨a.toArray⟩ ⟨b.toArray⟩ w).mono ?_⟩
   · rw [← cmpB_S]; exact .d _ _ (.int _ _)
   · rintro e w' ⟨he, rfl⟩
     exact ⟨he, Below.refl _ _⟩
def withK (v : List UInt8) (l : List Hir) (t : Int) : List UInt8 × Bool := match l.find? (fun h => occ v h t) with | some h => (h.key, true) | none => ([], false)
theorem withK_no {v : List UInt8} {l : List Hir} {t : Int} (h : ∀ j, j < l.length → occ v (l.getD j hi0) t = false) : withK v l t = ([], false) := by
 unfold withK
 have : l.find? (fun h => occ v h t) = none := by
  rw [List.find?_eq_none]
  intro x hx
  obtain ⟨j, hj, rfl⟩ := mem_getD (d := hi0) hx
  rw [h j hj]; simp
 rw [this]
theorem withK_yes {v : List UInt8} {l : List Hir} {t : Int} : ∀ {i : Nat}, i < l.length → (∀ j, j < i → occ v (l.getD j hi0) t = false) → occ v (l.getD i hi0) t = true → withK v l t = ((l.getD i hi0).key, true) := by
 induction l with
 | nil => intro i hi; simp at hi
 | cons x l ih =>
   intro i hi h ho
   cases i with
   | zero =>
     rw [List.getD_cons_zero] at ho ⊢
     unfold withK
     rw [List.find?_cons_of_pos (by simpa using ho)]
   | succ i =>
     have h0 := h 0 (by omega)
     rw [List.getD_cons_zero] at h0
     have := ih (i := i) (by simpa using hi) (fun j hj => by have := h (j + 1) (by omega); rwa [List.getD_cons_succ] at this) (by simpa using ho)
     unfold withK at this ⊢
     rw [List.find?_cons_of_neg (by simp [h0])]
     simpa using this
def mV (H : List UInt8 → Bool) (v : List UInt8 → DV) : Res := .map false false [.str] [.nilsl] (fun k => H (strK k)) (fun k => [v (strK k)])
def vF (l : List Hld) : DV := if l = [] then .nilsl else seqD 3 hldF hld0 l
abbrev mF (o : List UInt8 → List Hld) : Res := mV (fun p => !(o p).isEmpty) (fun p => vF (o p))
theorem vF_or (l : List Hld) : (vF l = .nilsl ∧ l = []) ∨ vF l = seqD 3 hldF hld0 l := by
 unfold vF
 by_cases h : l = []
 · rw [if_pos h]; exact .inl ⟨rfl, h⟩
 · rw [if_neg h]; exact .inr rfl
theorem le_froR (o : List UInt8 → List Hld) : Res.le (.map false false [.str] [.nilsl] (fun k => !(o (strK k)).isEmpty) (fun q => bif !(o (strK q)).isEmpty then [.ro 3 (o (strK q)).length (fun i => rowF hldF hld0 (o (strK q)) i)] else [.nilsl])) (mF o) :=
 Res.le_map fun k hk => ⟨rfl, by
  unfold vF
  cases h : o (strK k) with
  | nil => simp [h]
  | cons x l => simp [h]⟩
theorem z73 (f : Flt) (hl : f.plt.length ≤ 1000) (hs : srtP f.plt) (h : List Hir) : FSpec Tryz.prog 73 [flt f, .d (hirs h)] [] (fun y r => y = .agg [.mp 6, .d (hirs h)] ∧ r = [(6, mF (hend f.plt).out)]) := by
 refine spec_of hT (C := []) Tryz.func73 rfl Tryz.call73 rfl rfl rfl ?_
 conv => whnf
 refine CallX.of (z151 f hl hs) [(14, 6)] rfl ⟨lr, trivial⟩ trivial rfl rfl ?_
 rintro x rout ⟨rfl, rfl⟩
 refine ⟨rfl, ?_⟩
 conv => whnf
 repeat' (first | (refine br_intro ?_ ?_ <;> intro hb <;> (try simp only [brs] at hb) <;> conv => whnf) | omega | (refine And.intro ?_ ?_; ((try dsimp only); first | omega | (refine szA rfl ?_; omega) | (refine szB rfl ?_; omega) | (unfold inI64; omega) | exact rfl | (simp only [lns] at *; omega) | decide | (unfold inI64; decide)); conv => whnf) | decide | assumption)
 refine .ent _ _ (Entails.froR 6 rfl) (.weak _ ?_)
 conv => whnf
 exact ⟨.agg [.mp 6, .d (hirs h)], [(6, mF (hend f.plt).out)], lr, ⟨rfl, rfl⟩, le_froR _, trivial⟩
theorem find_none {α : Type} {l : List α} {d : α} {p : α → Bool} (h : ∀ j, j < l.length → p (l.getD j d) = false) : l.find? p = none := by
 rw [List.find?_eq_none]
 intro x hx
 obtain ⟨j, hj, rfl⟩ := mem_getD (d := d) hx
 rw [h j hj]; simp
theorem find_hit {α : Type} {d : α} {p : α → Bool} : ∀ {l : List α} {i : Nat}, i < l.length → (∀ j, j < i → p (l.getD j d) = false) → p (l.getD i d) = true → l.find? p = some (l.getD i d) := by
 intro l
 induction l with
 | nil => intro i hi; simp at hi
 | cons x l ih =>
   intro i hi h ho
   cases i with
   | zero =>
     rw [List.getD_cons_zero] at ho ⊢
     rw [List.find?_cons_of_pos ho]
   | succ i =>
     have h0 := h 0 (by omega)
     rw [List.getD_cons_zero] at h0
     rw [List.find?_cons_of_neg (by simp [h0])]
     rw [List.getD_cons_succ] at ho ⊢
     exact ih (by simpa using hi) (fun j hj => by have := h (j + 1) (by omega); rwa [List.getD_cons_succ] at this) ho
def lookV (o : List Hld) (t : Int) : List UInt8 := (findH o t).getD []
theorem lookV_no {o : List Hld} {t : Int} (h : ∀ j, j < o.length → inH t (o.getD j hld0) = false) : lookV o t = [] := by
 unfold lookV findH; rw [find_none h]; rfl
theorem lookV_hit {o : List Hld} {t : Int} {i : Nat} (hi : i < o.length) (h : ∀ j, j < i → inH t (o.getD j hld0) = false) (q : inH t (o.getD i hld0) = true) : lookV o t = (o.getD i hld0).veh := by
 unfold lookV findH; rw [find_hit hi h q]; rfl
theorem z116 (H : List UInt8 → Bool) (v : List UInt8 → DV) (o : List Hld) (h : List Hir) (p : List UInt8) (t : Int) (hl : o.length ≤ 2^40) (hv : (v p = .nilsl ∧ o = []) ∨ v p = seqD 3 hldF hld0 o) :
 FSpec Tryz.prog 116 [.agg [.mp 1000001, .d (hirs h)], .d (.str p), .d (.int .i64 t)] [(1000001, mV H v)] (fun y r => y = .d (.str (lookV o t)) ∧ r = [(1000001, mV H v)]) := by
 have hv' : (v (strK [.str p]) = .nilsl ∧ o = []) ∨ v (strK [.str p]) = seqD 3 hldF hld0 o := hv
 refine spec_of hT (C := []) Tryz.func116 rfl Tryz.call116 rfl rfl rfl ?_
 conv => whnf
 rcases hv' with ⟨e, ho⟩ | e
 · have hle : SV.le (.d .nilsl) (.d (seqD 3 hldF hld0 o)) := by rw [ho]; exact SV.le_nilS
   repeat' (first | (rw [e]; conv => whnf) | (refine br_intro ?_ ?_ <;> intro hb <;> (try simp only [brs] at hb) <;> conv => whnf) | omega | (refine And.intro ?_ ?_; ((try dsimp only); first | omega | (refine szA rfl ?_; omega) | (refine szB rfl ?_; omega) | (unfold inI64; omega) | exact rfl | (simp only [lns] at *; omega) | decide | (unfold inI64; decide)); conv => whnf) | decide | assumption)
   refine LoopX.rule hT (C := []) (ι := Nat) (fun i => i ≤ o.length ∧ ∀ j, j < i → inH t (o.getD j hld0) = false) (fun i => mkSt [(2, .d (.int .i64 t)), (12, .d (seqD 3 hldF hld0 o)), (13, .d (.int .i64 o.length)), (14, .d (.int .i64 i))] [(1000001, mV H v)]) (fun i => o.length - i) 0 ⟨by omega, by omega⟩ ?_ ?_
   · exact Entails.mk' [(1000001, 1000001)] rfl rfl ⟨lr, hle, SV.le_int (by first | rfl | (rw [ho]; rfl)), lr, trivial⟩ ⟨rr, trivial⟩
   rintro i ⟨p1, p2⟩
   have e1 : (i : Int).toNat = i := Int.toNat_natCast i
   rcases Nat.lt_or_ge i o.length with hi | hi
   · conv => whnf
     repeat' (first | (refine br_intro ?_ ?_ <;> intro hb <;> (try simp only [brs] at hb) <;> conv => whnf) | omega | (refine And.intro ?_ ?_; ((try dsimp only); first | omega | (refine szA rfl ?_; omega) | (refine szB rfl ?_; omega) | (unfold inI64; omega) | exact rfl | (simp only [lns] at *; omega) | decide | (unfold inI64; decide)); conv => whnf) | decide | assumption)
     all_goals try (exfalso; omega)
     all_goals first
      | exact ⟨i + 1, ⟨by omega, all_step p2 (by unfold inH; simp only [e1] at *; grind)⟩, by omega, (by (refine Entails.mk' [(1000001, 1000001)] rfl rfl ?_ ?_ <;> repeat' (first | exact True.intro | exact lr | exact rr | exact SV.le_int (by omega) | exact SV.le_any _ | refine And.intro ?_ ?_)); done)⟩
      | (refine .ret _ ?_
         (conv => whnf)
         refine ⟨[(1000001, mV H v)], ⟨?_, rfl⟩, rr, trivial⟩
         conv => lhs; whnf
         exact congrArg (fun z => SV.d (.str z)) (lookV_hit (i := i) (by omega) p2 (by unfold inH; simp only [e1] at *; grind)).symm)
   · conv => whnf
     repeat' (first | (refine br_intro ?_ ?_ <;> intro hb <;> (try simp only [brs] at hb) <;> conv => whnf) | omega | (refine And.intro ?_ ?_; ((try dsimp only); first | omega | (refine szA rfl ?_; omega) | (refine szB rfl ?_; omega) | (unfold inI64; omega) | exact rfl | (simp only [lns] at *; omega) | decide | (unfold inI64; decide)); conv => whnf) | decide | assumption)
     all_goals try (exfalso; omega)
     refine .ret _ ?_
     (conv => whnf)
     refine ⟨[(1000001, mV H v)], ⟨?_, rfl⟩, rr, trivial⟩
     conv => lhs; whnf
     rw [lookV_no (fun j hj => p2 j (by omega))]
 · have ho : True := trivial
   have hle : SV.le (.d (seqD 3 hldF hld0 o)) (.d (seqD 3 hldF hld0 o)) := lr
   repeat' (first | (rw [e]; conv => whnf) | (refine br_intro ?_ ?_ <;> intro hb <;> (try simp only [brs] at hb) <;> conv => whnf) | omega | (refine And.intro ?_ ?_; ((try dsimp only); first | omega | (refine szA rfl ?_; omega) | (refine szB rfl ?_; omega) | (unfold inI64; omega) | exact rfl | (simp only [lns] at *; omega) | decide | (unfold inI64; decide)); conv => whnf) | decide | assumption)
   refine LoopX.rule hT (C := []) (ι := Nat) (fun i => i ≤ o.length ∧ ∀ j, j < i → inH t (o.getD j hld0) = false) (fun i => mkSt [(2, .d (.int .i64 t)), (12, .d (seqD 3 hldF hld0 o)), (13, .d (.int .i64 o.length)), (14, .d (.int .i64 i))] [(1000001, mV H v)]) (fun i => o.length - i) 0 ⟨by omega, by omega⟩ ?_ ?_
   · exact Entails.mk' [(1000001, 1000001)] rfl rfl ⟨lr, hle, SV.le_int (by first | rfl | (rw [ho]; rfl)), lr, trivial⟩ ⟨rr, trivial⟩
   rintro i ⟨p1, p2⟩
   have e1 : (i : Int).toNat = i := Int.toNat_natCast i
   rcases Nat.lt_or_ge i o.length with hi | hi
   · conv => whnf
     repeat' (first | (refine br_intro ?_ ?_ <;> intro hb <;> (try simp only [brs] at hb) <;> conv => whnf) | omega | (refine And.intro ?_ ?_; ((try dsimp only); first | omega | (refine szA rfl ?_; omega) | (refine szB rfl ?_; omega) | (unfold inI64; omega) | exact rfl | (simp only [lns] at *; omega) | decide | (unfold inI64; decide)); conv => whnf) | decide | assumption)
     all_goals try (exfalso; omega)
     all_goals first
      | exact ⟨i + 1, ⟨by omega, all_step p2 (by unfold inH; simp only [e1] at *; grind)⟩, by omega, (by (refine Entails.mk' [(1000001, 1000001)] rfl rfl ?_ ?_ <;> repeat' (first | exact True.intro | exact lr | exact rr | exact SV.le_int (by omega) | exact SV.le_any _ | refine And.intro ?_ ?_)); done)⟩
      | (refine .ret _ ?_
         (conv => whnf)
         refine ⟨[(1000001, mV H v)], ⟨?_, rfl⟩, rr, trivial⟩
         conv => lhs; whnf
         exact congrArg (fun z => SV.d (.str z)) (lookV_hit (i := i) (by omega) p2 (by unfold inH; simp only [e1] at *; grind)).symm)
   · conv => whnf
     repeat' (first | (refine br_intro ?_ ?_ <;> intro hb <;> (try simp only [brs] at hb) <;> conv => whnf) | omega | (refine And.intro ?_ ?_; ((try dsimp only); first | omega | (refine szA rfl ?_; omega) | (refine szB rfl ?_; omega) | (unfold inI64; omega) | exact rfl | (simp only [lns] at *; omega) | decide | (unfold inI64; decide)); conv => whnf) | decide | assumption)
     all_goals try (exfalso; omega)
     refine .ret _ ?_
     (conv => whnf)
     refine ⟨[(1000001, mV H v)], ⟨?_, rfl⟩, rr, trivial⟩
     conv => lhs; whnf
     rw [lookV_no (fun j hj => p2 j (by omega))]
def icC (t : Int) : Res := .cells 3 [.d (.int .i64 t)]
theorem z181 (x : Leg) : FSpec Tryz.prog 181 [.agg ((lgF x).map .d)] [] (fun y r => y = .agg [.d (.int .i64 x.out.tm), .d (.int .i64 (lastE x))] ∧ r = []) := by
 refine spec_of hT (C := []) Tryz.func181 rfl Tryz.call181 rfl rfl rfl ?_
 conv => whnf
 repeat' (first | (refine br_intro ?_ ?_ <;> intro hb <;> (try simp only [brs] at hb) <;> conv => whnf) | omega | (refine And.intro ?_ ?_; ((try dsimp only); first | omega | (refine szA rfl ?_; omega) | (refine szB rfl ?_; omega) | (unfold inI64; omega) | exact rfl | (simp only [lns] at *; omega) | decide | (unfold inI64; decide)); conv => whnf) | decide | assumption)
 all_goals
  refine .ret _ ?_
  conv => whnf
  refine ⟨[], ⟨?_, rfl⟩, trivial⟩
  conv => lhs; whnf
  unfold lastE
  first
   | (rw [if_pos hb]; rfl)
   | (rw [if_neg hb]; rfl)
theorem z207 (x : Leg) (v : List UInt8) (t : Int) : FSpec Tryz.prog 207 [.agg ((lgF x).map .d), .ptr 1000001 0, .ptr 1000002 0] [(1000001, kyC v), (1000002, icC t)] (fun y r => y = .d (.bool (onL v x t)) ∧ r = [(1000001, kyC v), (1000002, icC t)]) := by
 refine spec_of hT (C := []) Tryz.func207 rfl Tryz.call207 rfl rfl rfl ?_
 conv => whnf
 repeat' (first | (refine CallX.exact (z181 x) rfl rfl ?_; rotate_right; conv => whnf) | (refine br_intro ?_ ?_ <;> intro hb <;> (try simp only [brs] at hb) <;> conv => whnf) | omega | (refine And.intro ?_ ?_; ((try dsimp only); first | omega | (refine szA rfl ?_; omega) | (refine szB rfl ?_; omega) | (unfold inI64; omega) | exact rfl | (simp only [lns] at *; omega) | decide | (unfold inI64; decide)); conv => whnf) | decide | assumption)
 all_goals
  refine .ret _ ?_
  conv => whnf
  refine ⟨[(1000001, kyC v), (1000002, icC t)], ⟨?_, rfl⟩, rr, rr, trivial⟩
  conv => lhs; whnf
  unfold onL
  congr 2
  first | grind | simp_all
theorem z270 (l : List Leg) (hl : l.length ≤ 2^40)  (v : List UInt8) (t : Int) : FSpec Tryz.prog 270 [.d (Go.Proofs.YtcjfniddeibbhaaGreatDoor.legs l), .fn 207 [.ptr 1000001 0, .ptr 1000002 0]] [(1000001, kyC v), (1000002, icC t)] (fun x r => x = .d (.int .i64 (ixF (fun i => onL v (l.getD i lg0) t) l.length)) ∧ r = [(1000001, kyC v), (1000002, icC t)]) := by
 refine spec_of hT (C := []) Tryz.func270 rfl Tryz.call270 rfl rfl rfl ?_
 conv => whnf
 refine LoopX.rule hT (C := []) (ι := Nat) (fun i => i ≤ l.length ∧ ∀ j, j < i → onL v (l.getD j lg0) t = false) (fun i => mkSt [(0, .d (Go.Proofs.YtcjfniddeibbhaaGreatDoor.legs l)), (1, .fn 207 [.ptr 1000001 0, .ptr 1000002 0]), (7, .d (.int .i64 l.length)), (8, .d (.int .i64 i))] [(1000001, kyC v), (1000002, icC t)]) (fun i => l.length - i) 0 ⟨by omega, by omega⟩ (by (refine Entails.mk' [(1000001, 1000001), (1000002, 1000002)] rfl rfl ?_ ?_ <;> repeat' (first | exact True.intro | exact lr | exact rr | exact SV.le_int (by omega) | exact SV.le_any _ | refine And.intro ?_ ?_)); done) ?_
 rintro i ⟨p1, p2⟩
 have e1 : (i : Int).toNat = i := Int.toNat_natCast i
 conv => whnf
 repeat' (first | (refine CallX.of (z207 (l.getD (i : Int).toNat lg0) v t) [(1000001, 1000001), (1000002, 1000002)] rfl ⟨lr, lr, lr, trivial⟩ ⟨rr, rr, trivial⟩ rfl rfl ?_; rintro x rout ⟨rfl, rfl⟩; refine ⟨rfl, ?_⟩; conv => whnf) | (refine br_intro ?_ ?_ <;> intro hb <;> (try simp only [brs] at hb) <;> conv => whnf) | omega | (refine And.intro ?_ ?_; ((try dsimp only); first | omega | (refine szA rfl ?_; omega) | (refine szB rfl ?_; omega) | (unfold inI64; omega) | exact rfl | (simp only [lns] at *; omega) | decide | (unfold inI64; decide)); conv => whnf) | decide | assumption)
 · refine .ret _ ?_
   conv => whnf
   refine ⟨[(1000001, kyC v), (1000002, icC t)], ⟨?_, rfl⟩, rr, rr, trivial⟩
   conv => lhs; whnf
   congr 2
   exact (ixF_hit (by omega) p2 (by simpa using hb)).symm
 · exact ⟨i + 1, ⟨by omega, all_step p2 (by simpa using hb)⟩, by omega, (by (refine Entails.mk' [(1000001, 1000001), (1000002, 1000002)] rfl rfl ?_ ?_ <;> repeat' (first | exact True.intro | exact lr | exact rr | exact SV.le_int (by omega) | exact SV.le_any _ | refine And.intro ?_ ?_)); done)⟩
 · refine .ret _ ?_
   conv => whnf
   refine ⟨[(1000001, kyC v), (1000002, icC t)], ⟨?_, rfl⟩, rr, rr, trivial⟩
   conv => lhs; whnf
   congr 2
   have : i = l.length := by omega
   subst this
   exact (ixF_none p2).symm
theorem z206 (l : List Leg) (hl : l.length ≤ 2^40) (v : List UInt8) (t : Int) : FSpec Tryz.prog 206 [.d (Go.Proofs.YtcjfniddeibbhaaGreatDoor.legs l), .fn 207 [.ptr 1000001 0, .ptr 1000002 0]] [(1000001, kyC v), (1000002, icC t)] (fun x r => x = .d (.bool (l.any fun x => onL v x t)) ∧ r = [(1000001, kyC v), (1000002, icC t)]) := by
 refine spec_of hT (C := []) Tryz.func206 rfl Tryz.call206 rfl rfl rfl ?_
 conv => whnf
 repeat' (first | (refine CallX.of (z270 l hl v t) [(1000001, 1000001), (1000002, 1000002)] rfl ⟨lr, lr, trivial⟩ ⟨rr, rr, trivial⟩ rfl rfl ?_; rintro x rout ⟨rfl, rfl⟩; refine ⟨rfl, ?_⟩; conv => whnf) | (refine br_intro ?_ ?_ <;> intro hb <;> (try simp only [brs] at hb) <;> conv => whnf) | omega | (refine And.intro ?_ ?_; ((try dsimp only); first | omega | (refine szA rfl ?_; omega) | (refine szB rfl ?_; omega) | (unfold inI64; omega) | exact rfl | (simp only [lns] at *; omega) | decide | (unfold inI64; decide)); conv => whnf) | decide | assumption)
 refine .ret _ ?_
 conv => whnf
 refine ⟨[(1000001, kyC v), (1000002, icC t)], ⟨?_, rfl⟩, rr, rr, trivial⟩
 conv => lhs; whnf
 rw [← ix_any l lg0 (fun x => onL v x t)]
theorem z205 (h : Hir) (hh : h.legs.length ≤ 2^40) (v : List UInt8) (t : Int) : FSpec Tryz.prog 205 [.agg ((hiF h).map .d), .ptr 1000001 0, .ptr 1000002 0] [(1000001, kyC v), (1000002, icC t)] (fun y r => y = .d (.bool (occ v h t)) ∧ r = [(1000001, kyC v), (1000002, icC t)]) := by
 refine spec_of hT (C := []) Tryz.func205 rfl Tryz.call205 rfl rfl rfl ?_
 conv => whnf
 repeat' (first | (refine CallX.of (z206 h.legs hh v t) [(1000001, 1000001), (1000002, 1000002)] rfl ⟨lr, lr, trivial⟩ ⟨rr, rr, trivial⟩ rfl rfl ?_; rintro x rout ⟨rfl, rfl⟩; refine ⟨rfl, ?_⟩; conv => whnf) | (refine br_intro ?_ ?_ <;> intro hb <;> (try simp only [brs] at hb) <;> conv => whnf) | omega | (refine And.intro ?_ ?_; ((try dsimp only); first | omega | (refine szA rfl ?_; omega) | (refine szB rfl ?_; omega) | (unfold inI64; omega) | exact rfl | (simp only [lns] at *; omega) | decide | (unfold inI64; decide)); conv => whnf) | decide | assumption)
 refine .ret _ ?_
 conv => whnf
 exact ⟨[(1000001, kyC v), (1000002, icC t)], ⟨rfl, rfl⟩, rr, rr, trivial⟩
theorem z90 (l : List Hir) (hl : l.length ≤ 2^40) (hk : ∀ h ∈ l, h.legs.length ≤ 2^40) (v : List UInt8) (t : Int) : FSpec Tryz.prog 90 [.d (hirs l), .fn 205 [.ptr 1000001 0, .ptr 1000002 0]] [(1000001, kyC v), (1000002, icC t)] (fun x r => x = .d (.int .i64 (ixF (fun i => occ v (l.getD i hi0) t) l.length)) ∧ r = [(1000001, kyC v), (1000002, icC t)]) := by
 refine spec_of hT (C := []) Tryz.func90 rfl Tryz.call90 rfl rfl rfl ?_
 conv => whnf
 refine LoopX.rule hT (C := []) (ι := Nat) (fun i => i ≤ l.length ∧ ∀ j, j < i → occ v (l.getD j hi0) t = false) (fun i => mkSt [(0, .d (hirs l)), (1, .fn 205 [.ptr 1000001 0, .ptr 1000002 0]), (7, .d (.int .i64 l.length)), (8, .d (.int .i64 i))] [(1000001, kyC v), (1000002, icC t)]) (fun i => l.length - i) 0 ⟨by omega, by omega⟩ (by (refine Entails.mk' [(1000001, 1000001), (1000002, 1000002)] rfl rfl ?_ ?_ <;> repeat' (first | exact True.intro | exact lr | exact rr | exact SV.le_int (by omega) | exact SV.le_any _ | refine And.intro ?_ ?_)); done) ?_
 rintro i ⟨p1, p2⟩
 have e1 : (i : Int).toNat = i := Int.toNat_natCast i
 conv => whnf
 repeat' (first | (refine CallX.of (z205 (l.getD (i : Int).toNat hi0) (hk _ (getD_mem (by omega))) v t) [(1000001, 1000001), (1000002, 1000002)] rfl ⟨lr, lr, lr, trivial⟩ ⟨rr, rr, trivial⟩ rfl rfl ?_; rintro x rout ⟨rfl, rfl⟩; refine ⟨rfl, ?_⟩; conv => whnf) | (refine br_intro ?_ ?_ <;> intro hb <;> (try simp only [brs] at hb) <;> conv => whnf) | omega | (refine And.intro ?_ ?_; ((try dsimp only); first | omega | (refine szA rfl ?_; omega) | (refine szB rfl ?_; omega) | (unfold inI64; omega) | exact rfl | (simp only [lns] at *; omega) | decide | (unfold inI64; decide)); conv => whnf) | decide | assumption)
 · refine .ret _ ?_
   conv => whnf
   refine ⟨[(1000001, kyC v), (1000002, icC t)], ⟨?_, rfl⟩, rr, rr, trivial⟩
   conv => lhs; whnf
   congr 2
   exact (ixF_hit (by omega) p2 (by simpa using hb)).symm
 · exact ⟨i + 1, ⟨by omega, all_step p2 (by simpa using hb)⟩, by omega, (by (refine Entails.mk' [(1000001, 1000001), (1000002, 1000002)] rfl rfl ?_ ?_ <;> repeat' (first | exact True.intro | exact lr | exact rr | exact SV.le_int (by omega) | exact SV.le_any _ | refine And.intro ?_ ?_)); done)⟩
 · refine .ret _ ?_
   conv => whnf
   refine ⟨[(1000001, kyC v), (1000002, icC t)], ⟨?_, rfl⟩, rr, rr, trivial⟩
   conv => lhs; whnf
   congr 2
   have : i = l.length := by omega
   subst this
   exact (ixF_none p2).symm
def hirIx (l : List Hir) (v : List UInt8) (t : Int) : Int := ixF (fun i => occ v (l.getD i hi0) t) l.length
theorem z152 (H : List UInt8 → Bool) (w : List UInt8 → DV) (l : List Hir) (hl : l.length ≤ 2^40) (hk : ∀ h ∈ l, h.legs.length ≤ 2^40) (v : List UInt8) (t : Int) :
 FSpec Tryz.prog 152 [.agg [.mp 1000001, .d (hirs l)], .d (.str v), .d (.int .i64 t)] [(1000001, mV H w)] (fun y r => y = .d (.int .i64 (hirIx l v t)) ∧ r = [(1000001, mV H w)]) := by
 refine spec_of hT (C := []) Tryz.func152 rfl Tryz.call152 rfl rfl rfl ?_
 conv => whnf
 repeat' (first | (refine CallX.of (z90 l hl hk v t) [(1000001, 4), (1000002, 5)] rfl ⟨lr, lr, trivial⟩ ⟨rr, rr, trivial⟩ rfl rfl ?_; rintro x rout ⟨rfl, rfl⟩; refine ⟨rfl, ?_⟩; conv => whnf) | (refine br_intro ?_ ?_ <;> intro hb <;> (try simp only [brs] at hb) <;> conv => whnf) | omega | (refine And.intro ?_ ?_; ((try dsimp only); first | omega | (refine szA rfl ?_; omega) | (refine szB rfl ?_; omega) | (unfold inI64; omega) | exact rfl | (simp only [lns] at *; omega) | decide | (unfold inI64; decide)); conv => whnf) | decide | assumption)
 refine .ret _ ?_
 conv => whnf
 exact ⟨[(1000001, mV H w)], ⟨rfl, rfl⟩, rr, trivial⟩
def ownK (o : List Hld) (l : List Hir) (t : Int) : Int := if lookV o t = [] then -1 else hirIx l (lookV o t) t
theorem z74 (H : List UInt8 → Bool) (w : List UInt8 → DV) (o : List Hld) (l : List Hir) (hl : l.length ≤ 2^40) (hk : ∀ h ∈ l, h.legs.length ≤ 2^40) (p : List UInt8) (t : Int) (ho : o.length ≤ 2^40) (hv : (w p = .nilsl ∧ o = []) ∨ w p = seqD 3 hldF hld0 o) :
 FSpec Tryz.prog 74 [.agg [.mp 1000001, .d (hirs l)], .d (.str p), .d (.int .i64 t)] [(1000001, mV H w)] (fun y r => y = .tup [.d (.str (lookV o t)), .d (.int .i64 (ownK o l t))] ∧ r = [(1000001, mV H w)]) := by
 refine spec_of hT (C := []) Tryz.func74 rfl Tryz.call74 rfl rfl rfl ?_
 conv => whnf
 repeat' (first | (refine CallX.of (z116 H w o l p t ho hv) [(1000001, 1000001)] rfl ⟨lr, lr, lr, trivial⟩ ⟨rr, trivial⟩ rfl rfl ?_; rintro x rout ⟨rfl, rfl⟩; refine ⟨rfl, ?_⟩; conv => whnf) | (refine CallX.of (z152 H w l hl hk (lookV o t) t) [(1000001, 1000001)] rfl ⟨lr, lr, lr, trivial⟩ ⟨rr, trivial⟩ rfl rfl ?_; rintro x rout ⟨rfl, rfl⟩; refine ⟨rfl, ?_⟩; conv => whnf) | (refine br_intro ?_ ?_ <;> intro hb <;> (try simp only [brs] at hb) <;> conv => whnf) | omega | (refine And.intro ?_ ?_; ((try dsimp only); first | omega | (refine szA rfl ?_; omega) | (refine szB rfl ?_; omega) | (unfold inI64; omega) | exact rfl | (simp only [lns] at *; omega) | decide | (unfold inI64; decide)); conv => whnf) | decide | assumption)
 · refine .ret _ ?_
   conv => whnf
   refine ⟨[(1000001, mV H w)], ⟨?_, rfl⟩, rr, trivial⟩
   unfold ownK
   rw [if_pos hb, hb]
   rfl
 · refine .ret _ ?_
   conv => whnf
   refine ⟨[(1000001, mV H w)], ⟨?_, rfl⟩, rr, trivial⟩
   unfold ownK
   rw [if_neg hb]
   rfl
theorem z113 (H : List UInt8 → Bool) (w : List UInt8 → DV) (l : List Hir) (n : Int) (hn : n < l.length) :
 FSpec Tryz.prog 113 [.agg [.mp 1000001, .d (hirs l)], .d (.int .i64 n)] [(1000001, mV H w)] (fun y r => y = .d (.str (if n < 0 then [] else (l.getD n.toNat hi0).key)) ∧ r = [(1000001, mV H w)]) := by
 refine spec_of hT (C := []) Tryz.func113 rfl Tryz.call113 rfl rfl rfl ?_
 conv => whnf
 repeat' (first | (refine br_intro ?_ ?_ <;> intro hb <;> (try simp only [brs] at hb) <;> conv => whnf) | omega | (refine And.intro ?_ ?_; ((try dsimp only); first | omega | (refine szA rfl ?_; omega) | (refine szB rfl ?_; omega) | (unfold inI64; omega) | exact rfl | (simp only [lns] at *; omega) | decide | (unfold inI64; decide)); conv => whnf) | decide | assumption)
 · refine .ret _ ?_
   conv => whnf
   refine ⟨[(1000001, mV H w)], ⟨?_, rfl⟩, rr, trivial⟩
   rw [if_pos hb]
   rfl
 · refine .ret _ ?_
   conv => whnf
   refine ⟨[(1000001, mV H w)], ⟨?_, rfl⟩, rr, trivial⟩
   rw [if_neg (by omega)]
   rfl
def oTFlM114_1 : List (Nat × List Nat) := [(0, []), (1, []), (3, [0, 1]), (4, [0, 1]), (6, [0, 1, 3, 4]), (7, [0, 1, 3, 4]), (8, [0, 1, 3, 4]), (9, [0, 1, 3, 4]), (2, [3, 4, 6, 7, 8, 9]), (5, [6, 7, 8, 9]), (10, []), (11, []), (12, []), (13, [])]
def oTFlM114_9 : List (Nat × List Nat) := [(0, []), (1, []), (2, []), (3, []), (4, []), (5, [3, 4]), (6, [3, 4]), (7, [3, 4, 5, 6]), (8, [3, 4, 5, 6]), (9, [3, 4]), (10, [3, 4]), (11, [3, 4]), (12, []), (13, []), (14, [])]
set_option maxHeartbeats 4000000 in
theorem z114 (f : Flt) (hk : fltOk f) : FSpec Tryz.prog 114 [flt f] [] (fun x r => x = .d (.int .i64 (fltE f)) ∧ r = []) := by
 have hlv := hk.veh.1
 have hlp := hk.plt.1
 have H : (if decide ((500 : Int) < f.veh.length) = true then (2 : Int) else 0) = if 500 < f.veh.length then 2 else 0 := by
  simp only [decide_eq_true_eq]; congr 1; rw [eq_iff_iff]; omega
 have h3 := s105 [stasE f.sta, clssE f.cls, if decide ((500 : Int) < f.veh.length) = true then 2 else 0] (by simp)
 rw [show firstE [stasE f.sta, clssE f.cls, if decide ((500 : Int) < f.veh.length) = true then 2 else 0] = fltE0 f from by rw [H]; rfl] at h3
 refine spec_of hT (C := []) Tryz.func114 rfl Tryz.call114 rfl rfl rfl ?_
 conv => whnf
 repeat' (first | (refine CallX.exact (z174 f.sta hk.sta) rfl rfl ?_; rotate_right; conv => whnf) | (refine CallX.exact (z175 f.cls hk.cls) rfl rfl ?_; rotate_right; conv => whnf) | (refine CallX.exact (s107 _ _) rfl rfl ?_; rotate_right; conv => whnf) | (refine CallX.pure h3 ⟨SV.le_lit (by rfl) (by rfl), trivial⟩ rfl ?_; conv => whnf) | (refine br_intro ?_ ?_ <;> intro hb <;> (try simp only [brs] at hb) <;> conv => whnf) | (refine RegX.rule (id := 1) hT rfl [] oTFlM114_1 (by decide +kernel) ?_; conv => whnf) | (refine RegX.rule (id := 9) hT rfl [] oTFlM114_9 (by decide +kernel) ?_; conv => whnf) | omega | (refine And.intro ?_ ?_; ((try dsimp only); first | omega | (refine szA rfl ?_; omega) | (refine szB rfl ?_; omega) | (unfold inI64; omega) | exact rfl | (simp only [lns] at *; omega) | decide | (unfold inI64; decide)); conv => whnf) | decide | assumption)
 · refine .ret _ ?_
   conv => whnf
   refine ⟨[], ⟨?_, rfl⟩, trivial⟩
   conv => lhs; whnf
   congr 2
   unfold fltE; rw [if_pos hb]
 have F0 : fltE0 f = 0 := hb
 refine LoopX.rule hT (C := []) (ι := Nat) (fun i => i ≤ f.veh.length ∧ ∀ j, j < i → vehE1 f j = 0) (fun i => mkSt [(1, .ptr 1 0), (23, .d (vehs f.veh)), (24, .d (.int .i64 f.veh.length)), (25, .d (.int .i64 i))] [(1, fltC f)]) (fun i => f.veh.length - i) 0 ⟨by omega, by omega⟩ (by (refine Entails.mk' [(1, 1)] rfl rfl ?_ ?_ <;> repeat' (first | exact True.intro | exact lr | exact rr | exact SV.le_int (by omega) | exact SV.le_any _ | refine And.intro ?_ ?_)); done) ?_
 rintro i ⟨p1, p2⟩
 have hx : (i : Int) < f.veh.length → (f.veh.getD (i : Int).toNat veh0).key.length ≤ 2^40 ∧ (f.veh.getD (i : Int).toNat veh0).cls.length ≤ 2^40 := fun hi => hk.veh.2 _ (getD_mem (by omega))
 have e1 : (i : Int).toNat = i := Int.toNat_natCast i
 have hbad : ∀ e : Int, i < f.veh.length → e ≠ 0 → vehE1 f i = e → fltE f = e := fun e h h1 h2 => by
  unfold fltE; rw [if_neg (by omega), firstAt_eq h p2 h1 h2, if_pos h1]
 rcases Nat.lt_or_ge i f.veh.length with hi | hi
 · conv => whnf
   repeat' (first | (refine CallX.exact (s108 _ (hx (by omega)).1) rfl rfl ?_; rotate_right; conv => whnf) | (refine CallX.exact (z176 f.cls (Nat.le_trans hk.cls.1 (by decide)) _) rfl rfl ?_; rotate_right; conv => whnf) | (refine br_intro ?_ ?_ <;> intro hb <;> (try simp only [brs] at hb) <;> conv => whnf) | (refine RegX.rule (id := 1) hT rfl [] oTFlM114_1 (by decide +kernel) ?_; conv => whnf) | (refine RegX.rule (id := 9) hT rfl [] oTFlM114_9 (by decide +kernel) ?_; conv => whnf) | omega | (refine And.intro ?_ ?_; ((try dsimp only); first | omega | (refine szA rfl ?_; omega) | (refine szB rfl ?_; omega) | (unfold inI64; omega) | exact rfl | (simp only [lns] at *; omega) | decide | (unfold inI64; decide)); conv => whnf) | decide | assumption)
   all_goals try (exfalso; omega)
   all_goals first
    | (refine ⟨i + 1, ⟨by omega, first_step p2 (by clear p2 hbad hk hx; simp only [e1, toNat_pred] at *; unfold vehE1 strLe; grind)⟩, by omega, (by (refine Entails.mk' [(1, 1)] rfl rfl ?_ ?_ <;> repeat' (first | exact True.intro | exact lr | exact rr | exact SV.le_int (by omega) | exact SV.le_any _ | refine And.intro ?_ ?_)); done)⟩)
    | (refine .ret _ ?_
       conv => whnf
       refine ⟨[], ⟨?_, rfl⟩, trivial⟩
       conv => lhs; whnf
       congr 2
       exact (hbad _ (by omega) (by decide) (by clear p2 hbad hk hx; simp only [e1, toNat_pred] at *; unfold vehE1 strLe; grind)).symm)
 have hil : i = f.veh.length := by omega
 subst hil
 have F1 := firstAt_zero p2
 clear hbad hx p2
 conv => whnf
 repeat' (first | (refine CallX.exact (z177 f hk (vehE_sorted F1)) rfl rfl ?_; rotate_right; conv => whnf) | (refine br_intro ?_ ?_ <;> intro hb <;> (try simp only [brs] at hb) <;> conv => whnf) | (refine RegX.rule (id := 1) hT rfl [] oTFlM114_1 (by decide +kernel) ?_; conv => whnf) | (refine RegX.rule (id := 9) hT rfl [] oTFlM114_9 (by decide +kernel) ?_; conv => whnf) | omega | (refine And.intro ?_ ?_; ((try dsimp only); first | omega | (refine szA rfl ?_; omega) | (refine szB rfl ?_; omega) | (unfold inI64; omega) | exact rfl | (simp only [lns] at *; omega) | decide | (unfold inI64; decide)); conv => whnf) | decide | assumption)
 all_goals try (exfalso; omega)
 refine .ret _ ?_
 conv => whnf
 refine ⟨[], ⟨?_, rfl⟩, trivial⟩
 conv => lhs; whnf
 congr 2
 unfold fltE pltsE
 simp [F0, F1]
def offE (f : Flt) (h : List Hir) : Int := firstE [fltE f, hirsE h]
theorem z72 (f : Flt) (hk : fltOk f) (h : List Hir) (hh : hiOk h) : FSpec Tryz.prog 72 [flt f, .d (hirs h)] [] (fun x r => x = .d (.int .i64 (offE f h)) ∧ r = []) := by
 have h3 := s105 [fltE f, hirsE h] (by simp)
 rw [show firstE [fltE f, hirsE h] = offE f h from rfl] at h3
 refine spec_of hT (C := []) Tryz.func72 rfl Tryz.call72 rfl rfl rfl ?_
 conv => whnf
 repeat' (first | (refine CallX.exact (z114 f hk) rfl rfl ?_; rotate_right; conv => whnf) | (refine CallX.exact (z124 h hh) rfl rfl ?_; rotate_right; conv => whnf) | (refine CallX.pure h3 ⟨SV.le_lit (by rfl) (by rfl), trivial⟩ rfl ?_; conv => whnf) | (refine br_intro ?_ ?_ <;> intro hb <;> (try simp only [brs] at hb) <;> conv => whnf) | omega | (refine And.intro ?_ ?_; ((try dsimp only); first | omega | (refine szA rfl ?_; omega) | (refine szB rfl ?_; omega) | (unfold inI64; omega) | exact rfl | (simp only [lns] at *; omega) | decide | (unfold inI64; decide)); conv => whnf) | decide | assumption)
 refine .ret _ ?_
 conv => whnf
 refine ⟨[], ⟨?_, rfl⟩, trivial⟩
 conv => lhs; whnf
theorem s221_0 : FSpec Tryz.prog 229 [.d (.int .u64 0)] [] (fun y r => (∃ m : Int, y = .d (.int .i64 m)) ∧ r = []) := by
 refine spec_of hT (C := []) Tryz.func229 rfl Tryz.call229 rfl rfl rfl ?_
 conv => whnf
 repeat' (first | (refine br_intro ?_ ?_ <;> intro hb <;> (try simp only [brs] at hb) <;> conv => whnf) | omega | (refine And.intro ?_ ?_; ((try dsimp only); first | omega | (refine szA rfl ?_; omega) | (refine szB rfl ?_; omega) | (unfold inI64; omega) | exact rfl | (simp only [lns] at *; omega) | decide | (unfold inI64; decide)); conv => whnf) | decide | assumption)
 refine .ret _ ?_
 conv => whnf
 exact ⟨[], ⟨⟨_, rfl⟩, rfl⟩, trivial⟩
theorem s221_1 : FSpec Tryz.prog 229 [.d (.int .u64 1)] [] (fun y r => (∃ m : Int, y = .d (.int .i64 m)) ∧ r = []) := by
 refine spec_of hT (C := []) Tryz.func229 rfl Tryz.call229 rfl rfl rfl ?_
 conv => whnf
 repeat' (first | (refine br_intro ?_ ?_ <;> intro hb <;> (try simp only [brs] at hb) <;> conv => whnf) | omega | (refine And.intro ?_ ?_; ((try dsimp only); first | omega | (refine szA rfl ?_; omega) | (refine szB rfl ?_; omega) | (unfold inI64; omega) | exact rfl | (simp only [lns] at *; omega) | decide | (unfold inI64; decide)); conv => whnf) | decide | assumption)
 refine .ret _ ?_
 conv => whnf
 exact ⟨[], ⟨⟨_, rfl⟩, rfl⟩, trivial⟩
theorem s221_2 : FSpec Tryz.prog 229 [.d (.int .u64 2)] [] (fun y r => (∃ m : Int, y = .d (.int .i64 m)) ∧ r = []) := by
 refine spec_of hT (C := []) Tryz.func229 rfl Tryz.call229 rfl rfl rfl ?_
 conv => whnf
 repeat' (first | (refine br_intro ?_ ?_ <;> intro hb <;> (try simp only [brs] at hb) <;> conv => whnf) | omega | (refine And.intro ?_ ?_; ((try dsimp only); first | omega | (refine szA rfl ?_; omega) | (refine szB rfl ?_; omega) | (unfold inI64; omega) | exact rfl | (simp only [lns] at *; omega) | decide | (unfold inI64; decide)); conv => whnf) | decide | assumption)
 refine .ret _ ?_
 conv => whnf
 exact ⟨[], ⟨⟨_, rfl⟩, rfl⟩, trivial⟩
theorem s221_3 : FSpec Tryz.prog 229 [.d (.int .u64 3)] [] (fun y r => (∃ m : Int, y = .d (.int .i64 m)) ∧ r = []) := by
 refine spec_of hT (C := []) Tryz.func229 rfl Tryz.call229 rfl rfl rfl ?_
 conv => whnf
 repeat' (first | (refine br_intro ?_ ?_ <;> intro hb <;> (try simp only [brs] at hb) <;> conv => whnf) | omega | (refine And.intro ?_ ?_; ((try dsimp only); first | omega | (refine szA rfl ?_; omega) | (refine szB rfl ?_; omega) | (unfold inI64; omega) | exact rfl | (simp only [lns] at *; omega) | decide | (unfold inI64; decide)); conv => whnf) | decide | assumption)
 refine .ret _ ?_
 conv => whnf
 exact ⟨[], ⟨⟨_, rfl⟩, rfl⟩, trivial⟩
theorem s221_4 : FSpec Tryz.prog 229 [.d (.int .u64 4)] [] (fun y r => (∃ m : Int, y = .d (.int .i64 m)) ∧ r = []) := by
 refine spec_of hT (C := []) Tryz.func229 rfl Tryz.call229 rfl rfl rfl ?_
 conv => whnf
 repeat' (first | (refine br_intro ?_ ?_ <;> intro hb <;> (try simp only [brs] at hb) <;> conv => whnf) | omega | (refine And.intro ?_ ?_; ((try dsimp only); first | omega | (refine szA rfl ?_; omega) | (refine szB rfl ?_; omega) | (unfold inI64; omega) | exact rfl | (simp only [lns] at *; omega) | decide | (unfold inI64; decide)); conv => whnf) | decide | assumption)
 refine .ret _ ?_
 conv => whnf
 exact ⟨[], ⟨⟨_, rfl⟩, rfl⟩, trivial⟩
theorem s221_5 : FSpec Tryz.prog 229 [.d (.int .u64 5)] [] (fun y r => (∃ m : Int, y = .d (.int .i64 m)) ∧ r = []) := by
 refine spec_of hT (C := []) Tryz.func229 rfl Tryz.call229 rfl rfl rfl ?_
 conv => whnf
 repeat' (first | (refine br_intro ?_ ?_ <;> intro hb <;> (try simp only [brs] at hb) <;> conv => whnf) | omega | (refine And.intro ?_ ?_; ((try dsimp only); first | omega | (refine szA rfl ?_; omega) | (refine szB rfl ?_; omega) | (unfold inI64; omega) | exact rfl | (simp only [lns] at *; omega) | decide | (unfold inI64; decide)); conv => whnf) | decide | assumption)
 refine .ret _ ?_
 conv => whnf
 exact ⟨[], ⟨⟨_, rfl⟩, rfl⟩, trivial⟩
theorem s221_6 : FSpec Tryz.prog 229 [.d (.int .u64 6)] [] (fun y r => (∃ m : Int, y = .d (.int .i64 m)) ∧ r = []) := by
 refine spec_of hT (C := []) Tryz.func229 rfl Tryz.call229 rfl rfl rfl ?_
 conv => whnf
 repeat' (first | (refine br_intro ?_ ?_ <;> intro hb <;> (try simp only [brs] at hb) <;> conv => whnf) | omega | (refine And.intro ?_ ?_; ((try dsimp only); first | omega | (refine szA rfl ?_; omega) | (refine szB rfl ?_; omega) | (unfold inI64; omega) | exact rfl | (simp only [lns] at *; omega) | decide | (unfold inI64; decide)); conv => whnf) | decide | assumption)
 refine .ret _ ?_
 conv => whnf
 exact ⟨[], ⟨⟨_, rfl⟩, rfl⟩, trivial⟩
theorem s221_7 : FSpec Tryz.prog 229 [.d (.int .u64 7)] [] (fun y r => (∃ m : Int, y = .d (.int .i64 m)) ∧ r = []) := by
 refine spec_of hT (C := []) Tryz.func229 rfl Tryz.call229 rfl rfl rfl ?_
 conv => whnf
 repeat' (first | (refine br_intro ?_ ?_ <;> intro hb <;> (try simp only [brs] at hb) <;> conv => whnf) | omega | (refine And.intro ?_ ?_; ((try dsimp only); first | omega | (refine szA rfl ?_; omega) | (refine szB rfl ?_; omega) | (unfold inI64; omega) | exact rfl | (simp only [lns] at *; omega) | decide | (unfold inI64; decide)); conv => whnf) | decide | assumption)
 refine .ret _ ?_
 conv => whnf
 exact ⟨[], ⟨⟨_, rfl⟩, rfl⟩, trivial⟩
theorem s221_8 : FSpec Tryz.prog 229 [.d (.int .u64 8)] [] (fun y r => (∃ m : Int, y = .d (.int .i64 m)) ∧ r = []) := by
 refine spec_of hT (C := []) Tryz.func229 rfl Tryz.call229 rfl rfl rfl ?_
 conv => whnf
 repeat' (first | (refine br_intro ?_ ?_ <;> intro hb <;> (try simp only [brs] at hb) <;> conv => whnf) | omega | (refine And.intro ?_ ?_; ((try dsimp only); first | omega | (refine szA rfl ?_; omega) | (refine szB rfl ?_; omega) | (unfold inI64; omega) | exact rfl | (simp only [lns] at *; omega) | decide | (unfold inI64; decide)); conv => whnf) | decide | assumption)
 refine .ret _ ?_
 conv => whnf
 exact ⟨[], ⟨⟨_, rfl⟩, rfl⟩, trivial⟩
theorem s221_9 : FSpec Tryz.prog 229 [.d (.int .u64 9)] [] (fun y r => (∃ m : Int, y = .d (.int .i64 m)) ∧ r = []) := by
 refine spec_of hT (C := []) Tryz.func229 rfl Tryz.call229 rfl rfl rfl ?_
 conv => whnf
 repeat' (first | (refine br_intro ?_ ?_ <;> intro hb <;> (try simp only [brs] at hb) <;> conv => whnf) | omega | (refine And.intro ?_ ?_; ((try dsimp only); first | omega | (refine szA rfl ?_; omega) | (refine szB rfl ?_; omega) | (unfold inI64; omega) | exact rfl | (simp only [lns] at *; omega) | decide | (unfold inI64; decide)); conv => whnf) | decide | assumption)
 refine .ret _ ?_
 conv => whnf
 exact ⟨[], ⟨⟨_, rfl⟩, rfl⟩, trivial⟩
theorem s221_10 : FSpec Tryz.prog 229 [.d (.int .u64 10)] [] (fun y r => (∃ m : Int, y = .d (.int .i64 m)) ∧ r = []) := by
 refine spec_of hT (C := []) Tryz.func229 rfl Tryz.call229 rfl rfl rfl ?_
 conv => whnf
 repeat' (first | (refine br_intro ?_ ?_ <;> intro hb <;> (try simp only [brs] at hb) <;> conv => whnf) | omega | (refine And.intro ?_ ?_; ((try dsimp only); first | omega | (refine szA rfl ?_; omega) | (refine szB rfl ?_; omega) | (unfold inI64; omega) | exact rfl | (simp only [lns] at *; omega) | decide | (unfold inI64; decide)); conv => whnf) | decide | assumption)
 refine .ret _ ?_
 conv => whnf
 exact ⟨[], ⟨⟨_, rfl⟩, rfl⟩, trivial⟩
theorem s221_11 : FSpec Tryz.prog 229 [.d (.int .u64 11)] [] (fun y r => (∃ m : Int, y = .d (.int .i64 m)) ∧ r = []) := by
 refine spec_of hT (C := []) Tryz.func229 rfl Tryz.call229 rfl rfl rfl ?_
 conv => whnf
 repeat' (first | (refine br_intro ?_ ?_ <;> intro hb <;> (try simp only [brs] at hb) <;> conv => whnf) | omega | (refine And.intro ?_ ?_; ((try dsimp only); first | omega | (refine szA rfl ?_; omega) | (refine szB rfl ?_; omega) | (unfold inI64; omega) | exact rfl | (simp only [lns] at *; omega) | decide | (unfold inI64; decide)); conv => whnf) | decide | assumption)
 refine .ret _ ?_
 conv => whnf
 exact ⟨[], ⟨⟨_, rfl⟩, rfl⟩, trivial⟩
theorem s221_12 : FSpec Tryz.prog 229 [.d (.int .u64 12)] [] (fun y r => (∃ m : Int, y = .d (.int .i64 m)) ∧ r = []) := by
 refine spec_of hT (C := []) Tryz.func229 rfl Tryz.call229 rfl rfl rfl ?_
 conv => whnf
 repeat' (first | (refine br_intro ?_ ?_ <;> intro hb <;> (try simp only [brs] at hb) <;> conv => whnf) | omega | (refine And.intro ?_ ?_; ((try dsimp only); first | omega | (refine szA rfl ?_; omega) | (refine szB rfl ?_; omega) | (unfold inI64; omega) | exact rfl | (simp only [lns] at *; omega) | decide | (unfold inI64; decide)); conv => whnf) | decide | assumption)
 refine .ret _ ?_
 conv => whnf
 exact ⟨[], ⟨⟨_, rfl⟩, rfl⟩, trivial⟩
theorem s221 (n : Nat) (hn : n ≤ 12) : FSpec Tryz.prog 229 [.d (.int .u64 n)] [] (fun y r => (∃ m : Int, y = .d (.int .i64 m)) ∧ r = []) := by
 match n, hn with
 | 0, _ => exact s221_0
 | 1, _ => exact s221_1
 | 2, _ => exact s221_2
 | 3, _ => exact s221_3
 | 4, _ => exact s221_4
 | 5, _ => exact s221_5
 | 6, _ => exact s221_6
 | 7, _ => exact s221_7
 | 8, _ => exact s221_8
 | 9, _ => exact s221_9
 | 10, _ => exact s221_10
 | 11, _ => exact s221_11
 | 12, _ => exact s221_12
 | n + 13, h => omega
theorem wrap_u64 (n : Nat) (hn : n ≤ 12) : IntKind.u64.wrap n = n := by
 match n, hn with
 | 0, _ | 1, _ | 2, _ | 3, _ | 4, _ | 5, _ | 6, _ | 7, _ | 8, _ | 9, _ | 10, _ | 11, _ | 12, _ => decide
 | n + 13, h => omega
theorem sBitsLen (n : Nat) (hn : n ≤ 12) : FSpec Tryz.prog 169 [.d (.int .u64 (IntKind.u64.wrap n))] [] (fun y r => (∃ m : Int, y = .d (.int .i64 m)) ∧ r = []) := by
 rw [wrap_u64 n hn]
 refine spec_of hT (C := []) Tryz.func169 rfl Tryz.call169 rfl rfl rfl ?_
 conv => whnf
 repeat' (first | (refine br_intro ?_ ?_ <;> intro hb <;> (try simp only [brs] at hb) <;> conv => whnf) | omega | (refine And.intro ?_ ?_; ((try dsimp only); first | omega | (refine szA rfl ?_; omega) | (refine szB rfl ?_; omega) | (unfold inI64; omega) | exact rfl | (simp only [lns] at *; omega) | decide | (unfold inI64; decide)); conv => whnf) | decide | assumption)
 refine CallX.of (s221 n hn) [] rfl ⟨lr, trivial⟩ trivial rfl rfl ?_
 rintro x rout ⟨⟨m, rfl⟩, rfl⟩
 refine ⟨rfl, ?_⟩
 conv => whnf
 refine .ret _ ?_
 conv => whnf
 exact ⟨[], ⟨⟨_, rfl⟩, rfl⟩, trivial⟩
def oTFlN251_4 : List (Nat × List Nat) := [(0, []), (1, [0]), (2, []), (3, []), (4, []), (5, [4]), (6, [4, 5]), (7, [4]), (8, [4]), (9, [4, 5, 6, 7, 8]), (10, [4, 5, 6, 7, 8, 9]), (11, [4, 5, 6, 7, 8, 9]), (12, [4, 5, 6, 7, 8]), (13, [4, 5, 6, 7, 8]), (14, []), (15, []), (16, [])]
def oTFlN251_6 : List (Nat × List Nat) := [(0, []), (1, [0]), (2, [0, 1]), (3, [0, 1, 2]), (4, [0, 1, 2]), (5, [0, 1, 2, 3, 4]), (6, [0, 1, 2, 3, 4, 5]), (7, [0, 1, 2, 3, 4, 5]), (8, [0, 1, 2, 3, 4]), (9, [0, 1, 2, 3, 4]), (10, [0, 1, 2, 3, 4, 5, 6, 7, 8, 9]), (11, [0, 1, 2, 3, 4, 5, 6, 7, 8, 9, 10]), (12, [0, 1, 2, 3, 4, 5, 6, 7, 8, 9]), (13, [0, 1, 2, 3, 4, 5, 6, 7, 8, 9]), (14, [2, 3, 4]), (15, [2, 3, 4]), (16, []), (17, [])]
def oTFlN187_17 : List (Nat × List Nat) := [(0, []), (1, []), (2, []), (3, []), (4, [3]), (5, [3, 4]), (6, [3, 4]), (7, [3]), (8, [3]), (9, [3, 4, 5, 6, 7, 8]), (10, [3, 4, 5, 6, 7, 8, 9]), (11, [3, 4, 5, 6, 7, 8]), (12, [3, 4, 5, 6, 7, 8]), (13, []), (14, []), (15, []), (16, [])]
abbrev pltB (l : List Plt) : Res := seqB 126 3 pltF plt0 l
abbrev staB (l : List Sta) : Res := seqB 121 15 staF sta0 l
abbrev vehB (l : List Veh) : Res := seqB 124 2 vehF veh0 l
theorem z137 (l : List Plt) (hl : l.length ≤ 2^20) : FSpec Tryz.prog 137 [.buf 1000001] [(1000001, pltB l)] (fun y r => (y = .d .nilsl ∧ l = [] ∧ r = [(1000001, pltB l)]) ∨ (y = .buf 7 ∧ r = [(7, pltB l), (1000001, pltB l)])) := by
 refine spec_of hT (C := [5]) Tryz.func137 rfl Tryz.call137 rfl rfl rfl ?_
 conv => whnf
 rintro b hbn
 conv => whnf
 repeat' (first | (refine br_intro ?_ ?_ <;> intro hb <;> (try simp only [brs] at hb) <;> conv => whnf) | omega | (refine And.intro ?_ ?_; ((try dsimp only); first | omega | (refine szA rfl ?_; omega) | (refine szB rfl ?_; omega) | (unfold inI64; omega) | exact rfl | (simp only [lns] at *; omega) | decide | (unfold inI64; decide)); conv => whnf) | decide | assumption)
 · have : l = [] := List.eq_nil_of_length_eq_zero (hbn (by assumption))
   refine .ret _ ?_
   conv => whnf
   exact ⟨_, .inl ⟨rfl, this, rfl⟩, rr, trivial⟩
 · refine .ret _ ?_
   conv => whnf
   refine ⟨_, .inr ⟨rfl, rfl⟩, Res.le_buf (by simp) (fun i hi => ?_), rr, trivial⟩
   rw [appGet_ge (by omega)]; rfl
def rfCmp (p q : Plt) : Int := if p.frm ≠ q.frm then p.frm - q.frm else cmpS (p.veh ++ [32] ++ p.plt) (q.veh ++ [32] ++ q.plt)
theorem z139 (p q : Plt) (hp : pltK p) (hq : pltK q) : FSpec Tryz.prog 139 [.agg ((pltF p).map .d), .agg ((pltF q).map .d)] [] (fun y r => y = .d (.int .i64 (rfCmp p q)) ∧ r = []) := by
 have h1 := hp.2.1
 have h2 := hp.2.2
 have h3 := hq.2.1
 have h4 := hq.2.2
 have h5 := hp.1
 have h6 := hq.1
 refine spec_of hT (C := []) Tryz.func139 rfl Tryz.call139 rfl rfl rfl ?_
 conv => whnf
 repeat' (first | (refine CallX.exact (s190 _ _) rfl rfl ?_; rotate_right; conv => whnf) | (refine br_intro ?_ ?_ <;> intro hb <;> (try simp only [brs] at hb) <;> conv => whnf) | omega | (refine And.intro ?_ ?_; ((try dsimp only); first | omega | (refine szA rfl ?_; omega) | (refine szB rfl ?_; omega) | (unfold inI64; omega) | exact rfl | (simp only [lns] at *; omega) | decide | (unfold inI64; decide)); conv => whnf) | decide | assumption)
 all_goals
  refine .ret _ ?_
  conv => whnf
  refine ⟨[], ⟨?_, rfl⟩, trivial⟩
  conv => lhs; whnf
  congr 2
  unfold rfCmp
  first | (rw [if_pos (by simpa using hb)]; done) | (rw [if_neg (by simpa using hb)]; done)
theorem swap_midPl {A B : List Plt} {x y : Plt} {D b : List Plt} {j : Nat} (hb : (y :: A).reverse ++ [x] ++ B ++ D = b) (hj : j = A.length + 1) :
 b.getD j plt0 = x ∧ b.getD (j - 1) plt0 = y ∧ (b.set j y).set (j - 1) x = A.reverse ++ [x] ++ (y :: B) ++ D := by
 subst hj
 refine ⟨?_, ?_, ?_⟩
 · rw [← hb, show (y :: A).reverse ++ [x] ++ B ++ D = (y :: A).reverse ++ x :: (B ++ D) by simp]
   exact getD_mid _ _ _ _ (by simp)
 · rw [← hb, show (y :: A).reverse ++ [x] ++ B ++ D = A.reverse ++ y :: ([x] ++ B ++ D) by simp]
   exact getD_mid _ _ _ _ (by simp)
 · rw [← hb]
   have := swap_lemma A.reverse (B ++ D) x y
   simp only [List.length_reverse] at this
   simp only [List.reverse_cons, List.append_assoc, List.singleton_append, List.cons_append, List.nil_append, Nat.add_sub_cancel] at this ⊢
   exact this
theorem sInsPl (g : FuncId) (cmp : Plt → Plt → Int) (l : List Plt) (hl : l.length ≤ 2^40)
 (hcmp : ∀ p q, p ∈ l → q ∈ l → FSpec Tryz.prog g [.agg ((pltF p).map .d), .agg ((pltF q).map .d)] [] (fun y r => y = .d (.int .i64 (cmp p q)) ∧ r = [])) :
 FSpec Tryz.prog 251 [.buf 1000001, .d (.int .i64 0), .d (.int .i64 l.length), .fn g []] [(1000001, seqB 126 3 pltF plt0 l)]
  (fun y r => y = .tup [] ∧ r = [(1000001, seqB 126 3 pltF plt0 (isort cmp l))]) := by
 refine spec_of hT (C := []) Tryz.func251 rfl Tryz.call251 rfl rfl rfl ?_
 conv => whnf
 repeat' (first | (refine br_intro ?_ ?_ <;> intro hb <;> (try simp only [brs] at hb) <;> conv => whnf) | (refine RegX.rule (id := 4) hT rfl [] oTFlN251_4 (by decide +kernel) ?_; conv => whnf) | (refine RegX.rule (id := 6) hT rfl [] oTFlN251_6 (by decide +kernel) ?_; conv => whnf) | omega | (refine And.intro ?_ ?_; ((try dsimp only); first | omega | (refine szA rfl ?_; omega) | (refine szB rfl ?_; omega) | (unfold inI64; omega) | exact rfl | (simp only [lns] at *; omega) | decide | (unfold inI64; decide)); conv => whnf) | decide | assumption)
 refine LoopX.rule hT (C := []) (ι := Nat × List Plt) (fun (i, c) => 1 ≤ i ∧ (i ≤ l.length ∨ i = 1) ∧ c = (isortR cmp (l.take i)).reverse ++ l.drop i)
  (fun (i, c) => mkSt [(0, .buf 1000001), (1, .d (.int .i64 0)), (2, .d (.int .i64 l.length)), (3, .fn g []), (8, .d (.int .i64 i))] [(1000001, seqB 126 3 pltF plt0 c)])
  (fun (i, _) => l.length - i) (1, l) ⟨by simp, by simp, by cases l with | nil => rfl | cons x l => simp [isortR, insR]⟩ (by (refine Entails.mk' [(1000001, 1000001)] rfl rfl ?_ ?_ <;> repeat' (first | exact True.intro | exact lr | exact rr | exact SV.le_int (by omega) | exact SV.le_any _ | refine And.intro ?_ ?_)); done) ?_
 rintro ⟨i, c⟩ ⟨p1, p2, p3⟩
 conv => whnf
 repeat' (first | (refine br_intro ?_ ?_ <;> intro hb <;> (try simp only [brs] at hb) <;> conv => whnf) | (refine RegX.rule (id := 4) hT rfl [] oTFlN251_4 (by decide +kernel) ?_; conv => whnf) | (refine RegX.rule (id := 6) hT rfl [] oTFlN251_6 (by decide +kernel) ?_; conv => whnf) | omega | (refine And.intro ?_ ?_; ((try dsimp only); first | omega | (refine szA rfl ?_; omega) | (refine szB rfl ?_; omega) | (unfold inI64; omega) | exact rfl | (simp only [lns] at *; omega) | decide | (unfold inI64; decide)); conv => whnf) | decide | assumption)
 · have hi : i < l.length := by omega
   have hx : l[i] ∈ l := List.getElem_mem hi
   have hmem : ∀ y ∈ isortR cmp (l.take i), y ∈ l := fun y hy => List.mem_of_mem_take ((isortR_mem cmp _).1 hy)
   have hlr : (isortR cmp (l.take i)).length = i := by rw [isortR_length, List.length_take]; omega
   have hc : c = (isortR cmp (l.take i)).reverse ++ [l[i]] ++ [] ++ l.drop (i + 1) := by rw [p3, List.drop_eq_getElem_cons hi]; simp
   refine LoopX.rule hT (C := []) (ι := List Plt × List Plt × List Plt) (fun (A, B, b) => insR cmp l[i] (isortR cmp (l.take i)) = B.reverse ++ insR cmp l[i] A ∧ A.length + B.length = i ∧ (∀ y ∈ A, y ∈ l) ∧ A.reverse ++ [l[i]] ++ B ++ l.drop (i + 1) = b)
    (fun (A, B, b) => mkSt [(0, .buf 1000001), (1, .d (.int .i64 0)), (2, .d (.int .i64 l.length)), (3, .fn g []), (8, .d (.int .i64 i)), (9, .d (.int .i64 A.length))] [(1000001, seqB 126 3 pltF plt0 b)])
    (fun (A, _, _) => A.length) (isortR cmp (l.take i), [], c) ⟨by simp, by simpa using hlr, hmem, hc.symm⟩ ?_ ?_
   · exact Entails.mk' [(1000001, 1000001)] rfl rfl ⟨lr, lr, lr, lr, lr, SV.le_int (by omega), trivial⟩ ⟨rr, trivial⟩
   rintro ⟨A, B, b⟩ ⟨q1, q2, q3, hbd⟩
   have hlen : b.length = l.length := by rw [← hbd]; simp; omega
   have hfin : A = [] ∨ (∃ y A', A = y :: A' ∧ 0 ≤ cmp l[i] y) → isortR cmp (l.take (i + 1)) = B.reverse ++ l[i] :: A ∧ b = (isortR cmp (l.take (i + 1))).reverse ++ l.drop (i + 1) := fun h => by
    have e : isortR cmp (l.take (i + 1)) = B.reverse ++ l[i] :: A := by
     rw [take_snoc hi, isortR_snoc, q1]
     rcases h with rfl | ⟨y, A', rfl, h⟩
     · rfl
     · rw [insR, if_neg (by omega)]
    exact ⟨e, by rw [e, ← hbd]; simp⟩
   conv => whnf
   repeat' (first | (refine br_intro ?_ ?_ <;> intro hb <;> (try simp only [brs] at hb) <;> conv => whnf) | (refine RegX.rule (id := 4) hT rfl [] oTFlN251_4 (by decide +kernel) ?_; conv => whnf) | (refine RegX.rule (id := 6) hT rfl [] oTFlN251_6 (by decide +kernel) ?_; conv => whnf) | omega | (refine And.intro ?_ ?_; ((try dsimp only); first | omega | (refine szA rfl ?_; omega) | (refine szB rfl ?_; omega) | (unfold inI64; omega) | exact rfl | (simp only [lns] at *; omega) | decide | (unfold inI64; decide)); conv => whnf) | decide | assumption)
   · cases A with
     | nil => simp at hb
     | cons y A =>
     obtain ⟨g1, g2, g3⟩ := swap_midPl (j := (((y :: A).length : Int)).toNat) hbd (by simp)
     have ej : ((((y :: A).length : Int)) - 1).toNat = (((y :: A).length : Int)).toNat - 1 := by omega
     refine CallX.of (hcmp l[i] y hx (q3 y (by simp))) [] rfl ⟨by rw [← g1]; exact lr, by rw [← g2, ← ej]; exact lr, trivial⟩ trivial rfl rfl ?_
     rintro x rout ⟨rfl, rfl⟩
     refine ⟨rfl, ?_⟩
     conv => whnf
     repeat' (first | (refine br_intro ?_ ?_ <;> intro hb <;> (try simp only [brs] at hb) <;> conv => whnf) | (refine RegX.rule (id := 4) hT rfl [] oTFlN251_4 (by decide +kernel) ?_; conv => whnf) | (refine RegX.rule (id := 6) hT rfl [] oTFlN251_6 (by decide +kernel) ?_; conv => whnf) | omega | (refine And.intro ?_ ?_; ((try dsimp only); first | omega | (refine szA rfl ?_; omega) | (refine szB rfl ?_; omega) | (unfold inI64; omega) | exact rfl | (simp only [lns] at *; omega) | decide | (unfold inI64; decide)); conv => whnf) | decide | assumption)
     · refine ⟨(A, y :: B, _), ⟨by rw [q1]; simp [insR, hb], by simp only [List.length_cons] at q2 ⊢; omega, fun z hz => q3 z (by simp [hz]), ?_⟩, by show A.length < (y :: A).length; simp, Entails.mk' [(1000001, 1000001)] rfl rfl ⟨lr, lr, lr, lr, lr, SV.le_int (by simp only [List.length_cons]; omega), trivial⟩ ⟨Res.le_put2 (x := b.getD ((((y :: A).length : Int)) - 1).toNat plt0) (y := b.getD (((y :: A).length : Int)).toNat plt0) (fun _ => rfl) (fun _ => rfl), trivial⟩⟩
       rw [← g3, ej, g1, g2]
     · obtain ⟨_, h2⟩ := hfin (.inr ⟨y, A, rfl, hb⟩)
       exact ⟨(i + 1, b), ⟨by omega, by omega, h2⟩, by show l.length - (i + 1) < l.length - i; omega, (by (refine Entails.mk' [(1000001, 1000001)] rfl rfl ?_ ?_ <;> repeat' (first | exact True.intro | exact lr | exact rr | exact SV.le_int (by omega) | exact SV.le_any _ | refine And.intro ?_ ?_)); done)⟩
   · have hA : A = [] := List.length_eq_zero_iff.1 (by omega)
     obtain ⟨_, h2⟩ := hfin (.inl hA)
     exact ⟨(i + 1, b), ⟨by omega, by omega, h2⟩, by show l.length - (i + 1) < l.length - i; omega, (by (refine Entails.mk' [(1000001, 1000001)] rfl rfl ?_ ?_ <;> repeat' (first | exact True.intro | exact lr | exact rr | exact SV.le_int (by omega) | exact SV.le_any _ | refine And.intro ?_ ?_)); done)⟩
 · refine .ret _ ?_
   conv => whnf
   have e1 : c = isort cmp l := by
    rw [p3, List.take_of_length_le (by omega), List.drop_eq_nil_iff.2 (by omega), List.append_nil]; rfl
   subst e1
   exact ⟨_, ⟨rfl, rfl⟩, rr, trivial⟩
theorem sPdqPl (g : FuncId) (cmp : Plt → Plt → Int) (l : List Plt) (hl : l.length ≤ 12) (lim : Int)
 (hcmp : ∀ p q, p ∈ l → q ∈ l → FSpec Tryz.prog g [.agg ((pltF p).map .d), .agg ((pltF q).map .d)] [] (fun y r => y = .d (.int .i64 (cmp p q)) ∧ r = [])) :
 FSpec Tryz.prog 187 [.buf 1000001, .d (.int .i64 0), .d (.int .i64 l.length), .d (.int .i64 lim), .fn g []] [(1000001, seqB 126 3 pltF plt0 l)]
  (fun y r => y = .tup [] ∧ r = [(1000001, seqB 126 3 pltF plt0 (isort cmp l))]) := by
 refine spec_of hT (C := []) Tryz.func187 rfl Tryz.call187 rfl rfl rfl ?_
 conv => whnf
 refine LoopX.unroll hT (C := []) (fun _ _ h => h) (fun _ h => h) ?_
 conv => whnf
 repeat' (first | (refine br_intro ?_ ?_ <;> intro hb <;> (try simp only [brs] at hb) <;> conv => whnf) | (refine RegX.rule (id := 17) hT rfl [] oTFlN187_17 (by decide +kernel) ?_; conv => whnf) | omega | (refine And.intro ?_ ?_; ((try dsimp only); first | omega | (refine szA rfl ?_; omega) | (refine szB rfl ?_; omega) | (unfold inI64; omega) | exact rfl | (simp only [lns] at *; omega) | decide | (unfold inI64; decide)); conv => whnf) | decide | assumption)
 refine CallX.of (sInsPl g cmp l (by omega) hcmp) [(1000001, 1000001)] rfl ⟨lr, lr, lr, lr, trivial⟩ ⟨rr, trivial⟩ rfl rfl ?_
 rintro x rout ⟨rfl, rfl⟩
 refine ⟨rfl, ?_⟩
 conv => whnf
 refine .ret _ ?_
 conv => whnf
 exact ⟨_, ⟨rfl, rfl⟩, rr, trivial⟩
theorem sSortPl (g : FuncId) (cmp : Plt → Plt → Int) (l : List Plt) (hl : l.length ≤ 12)
 (hcmp : ∀ p q, p ∈ l → q ∈ l → FSpec Tryz.prog g [.agg ((pltF p).map .d), .agg ((pltF q).map .d)] [] (fun y r => y = .d (.int .i64 (cmp p q)) ∧ r = [])) :
 FSpec Tryz.prog 138 [.buf 1000001, .fn g []] [(1000001, seqB 126 3 pltF plt0 l)]
  (fun y r => y = .tup [] ∧ r = [(1000001, seqB 126 3 pltF plt0 (isort cmp l))]) := by
 refine spec_of hT (C := []) Tryz.func138 rfl Tryz.call138 rfl rfl rfl ?_
 conv => whnf
 repeat' (first | (refine br_intro ?_ ?_ <;> intro hb <;> (try simp only [brs] at hb) <;> conv => whnf) | omega | (refine And.intro ?_ ?_; ((try dsimp only); first | omega | (refine szA rfl ?_; omega) | (refine szB rfl ?_; omega) | (unfold inI64; omega) | exact rfl | (simp only [lns] at *; omega) | decide | (unfold inI64; decide)); conv => whnf) | decide | assumption)
 refine CallX.of (sBitsLen l.length hl) [] rfl ⟨lr, trivial⟩ trivial rfl rfl ?_
 rintro x rout ⟨⟨lim, rfl⟩, rfl⟩
 refine ⟨rfl, ?_⟩
 conv => whnf
 repeat' (first | (refine br_intro ?_ ?_ <;> intro hb <;> (try simp only [brs] at hb) <;> conv => whnf) | omega | (refine And.intro ?_ ?_; ((try dsimp only); first | omega | (refine szA rfl ?_; omega) | (refine szB rfl ?_; omega) | (unfold inI64; omega) | exact rfl | (simp only [lns] at *; omega) | decide | (unfold inI64; decide)); conv => whnf) | decide | assumption)
 refine CallX.of (sPdqPl g cmp l hl lim hcmp) [(1000001, 1000001)] rfl ⟨lr, lr, lr, lr, lr, trivial⟩ ⟨rr, trivial⟩ rfl rfl ?_
 rintro x rout ⟨rfl, rfl⟩
 refine ⟨rfl, ?_⟩
 conv => whnf
 refine .ret _ ?_
 conv => whnf
 exact ⟨_, ⟨rfl, rfl⟩, rr, trivial⟩
theorem lookL_all {P : Res → Prop} : ∀ {l : List (Nat × Res)}, (∀ p ∈ l, P p.2) → ∀ c q, lookL l c = some q → P q := by
 intro l
 induction l with
 | nil => intro _ c q h; cases h
 | cons p l ih =>
   intro hp c q h
   simp only [lookL] at h
   by_cases e : c = p.1
   · subst e; simp at h; subst h; exact hp p (by simp)
   · rw [nbeq_ne e] at h; exact ih (fun x hx => hp x (by simp [hx])) c q h
theorem flat_pl (l : List Plt) : (pltB l).flat := fun _ _ => rfl
theorem flat_ve (l : List Veh) : (vehB l).flat := fun _ _ => rfl
theorem z21l (f : Flt) (hk : fltOk f) : FSpec Tryz.prog 21 [.agg [.buf 1, .d (clss f.cls), .buf 3, .buf 4]] [(1, staB f.sta), (3, vehB f.veh), (4, pltB f.plt)]
 (fun x r => x = .d (.int .i64 (fltE f)) ∧ r = [(1, staB f.sta), (3, vehB f.veh), (4, pltB f.plt)]) := by
 have h1 := FSpec.lend (args := [.agg [.d (stas f.sta), .d (clss f.cls), .d (vehs f.veh), .buf 4]]) 4 126 3 f.plt.length (rowF pltF plt0 f.plt) (z21 f hk) rfl (fun c r q => nomatch q) rfl
  (fun x r h => by obtain ⟨rfl, rfl⟩ := h; exact ⟨rfl, fun c q e => (nomatch e), rfl⟩)
 have h2 := FSpec.lend (args := [.agg [.d (stas f.sta), .d (clss f.cls), .buf 3, .buf 4]]) 3 124 2 f.veh.length (rowF vehF veh0 f.veh) h1 rfl
  (lookL_all (P := Res.isBuf) (fun p hp => by rw [List.mem_singleton] at hp; subst hp; exact trivial)) rfl
  (fun x r h => by obtain ⟨r0, ⟨rfl, rfl⟩, rfl⟩ := h; exact ⟨rfl, lookL_all (P := Res.flat) (fun p hp => by rw [List.mem_singleton] at hp; subst hp; exact flat_pl _), rfl⟩)
 have h3 := FSpec.lend (args := [.agg [.buf 1, .d (clss f.cls), .buf 3, .buf 4]]) 1 121 15 f.sta.length (rowF staF sta0 f.sta) h2 rfl
  (lookL_all (P := Res.isBuf) (fun p hp => by simp only [List.mem_cons, List.not_mem_nil, or_false] at hp; rcases hp with rfl | rfl <;> exact trivial)) rfl
  (fun x r h => by
    obtain ⟨r1, ⟨r0, ⟨rfl, rfl⟩, rfl⟩, rfl⟩ := h
    exact ⟨rfl, lookL_all (P := Res.flat) (fun p hp => by simp only [List.mem_cons, List.not_mem_nil, or_false] at hp; rcases hp with rfl | rfl; exact flat_ve _; exact flat_pl _), rfl⟩)
 exact h3.mono (fun x r h => by obtain ⟨r2, ⟨r1, ⟨r0, ⟨rfl, rfl⟩, rfl⟩, rfl⟩, rfl⟩ := h; exact ⟨rfl, rfl⟩)
def oTFlO57_8 : List (Nat × List Nat) := [(0, []), (1, []), (2, [0, 1]), (3, [0, 1, 2]), (4, [0, 1, 2]), (5, [0, 1, 2, 3, 4]), (6, [0, 1, 2, 3, 4, 5]), (7, [0, 1, 2, 3, 4, 5]), (8, [0, 1, 2, 3, 4, 5]), (9, [0, 1, 2, 3, 4]), (10, [0, 1, 2]), (11, [0, 1, 2]), (12, [0, 1, 2]), (13, [0, 1]), (14, [0, 1]), (15, []), (16, []), (17, [])]
def oTFlO57_13 : List (Nat × List Nat) := [(0, []), (1, [0]), (3, [0, 1]), (4, [0, 1]), (5, [0, 1, 3, 4]), (6, [0, 1, 3, 4, 5]), (7, [0, 1, 3, 4, 5]), (8, [0, 1, 3, 4, 5]), (13, [0, 1, 3, 4, 5, 6, 7, 8]), (14, [0, 1, 3, 4, 5, 6, 7, 8, 13]), (17, [0, 1, 3, 4, 5, 6, 7, 8, 13, 14]), (2, [3, 4, 5, 6, 7, 8, 13, 14, 17]), (9, [3, 4, 13, 14, 17]), (10, [13, 14, 17]), (11, [13, 14, 17]), (12, [13, 14, 17]), (15, [3, 4, 17, 10, 11, 12]), (16, [17]), (18, [])]
def oTFlO57_14 : List (Nat × List Nat) := [(0, []), (1, []), (3, [0, 1]), (4, [0, 1]), (2, [3, 4]), (5, []), (6, [])]
def v4 : List (List UInt8) := [[118, 49], [118, 50], [118, 51], [118, 52]]
def rfC (c : List Cls) : Res := .cells 31 [.buf 10, .d (clss c), .buf 20, .buf 30]
def rfC0 (c : List Cls) : Res := .cells 31 [.buf 10, .d (clss c), .buf 20, .d .nilsl]
def nlC : Res := .cells 31 [.d .nilsl, .d .nilsl, .d .nilsl, .d .nilsl]
def fltB (st : List Sta) (c : List Cls) (vs : List Veh) (ps : List Plt) : Prop := allK staK 3 st ∧ (c.length = 4 ∧ ∀ x ∈ c, clsK x) ∧ allK vehK 4 vs ∧ allK pltK 5 ps
theorem LoopX.shareX {α : Type} {P : Program} {c : Code} {Q : Exit → St → Prop} {G : Prop} (σ : α → St) (pre : α → Prop) (main : (∀ a, pre a → LoopX P c Q (σ a)) → G) (tail : ∀ a, pre a → LoopX P c Q (σ a)) : G := main tail
def sta1 : List Sta := [⟨[115, 49], fun _ => 0⟩]
set_option maxHeartbeats 4000000 in
theorem sRFlt (n : Nat) (L : Nat → Int) (hL : Rok n L) (a : Int) (h0 : 0 ≤ a) (ha : a ≤ 2^35) :
 FSpec Tryz.prog 57 [.ptr 1000000 0] [(1000000, strm n L a)] (fun y r => ∃ st cs vs ps, ∃ b, fltB st cs vs ps ∧ (a ≤ b ∧ b ≤ a + 400) ∧ y = .agg [.buf 10, .d (clss cs), .buf 20, .buf 30] ∧ r = [(10, staB st), (20, vehB vs), (30, pltB ps), (1000000, strm n L b)]) := by
 refine spec_of hT (C := [19]) Tryz.func57 rfl Tryz.call57 rfl rfl rfl ?_
 conv => whnf
 refine CallX.of (sStas n L hL a h0 (by omega)) [(1000000, 1000000), (3, 10)] rfl ⟨lr, trivial⟩ ⟨rr, trivial⟩ rfl rfl ?_
 rintro x rout ⟨st, b1, hst, ⟨b1a, b1b⟩, rfl, rfl⟩
 refine ⟨rfl, ?_⟩
 conv => whnf
 refine CallX.of (sClss n L hL b1 (by omega) (by omega)) [(1000000, 1000000), (9, 12)] rfl ⟨lr, trivial⟩ ⟨rr, trivial⟩ rfl rfl ?_
 rintro x rout ⟨cs, b2, hc, ⟨b2a, b2b⟩, rfl, rfl⟩
 refine ⟨rfl, ?_⟩
 conv => whnf
 refine' LoopX.shareX (P := Tryz.prog) (α := List Sta) (fun st => mkSt [(0, .ptr 1000000 0), (2, .ptr 2 0), (3, .ptr 3 0), (21, .d (strs v4)), (22, .d (.int .i64 4)), (23, .d (.int .i64 0))] [(1000000, strm n L b2), (2, nlC), (3, rfC0 cs), (10, staB st), (20, vehB [])]) (fun st => allK staK 3 st) ?main ?tail
 case main =>
  intro tail
  repeat' (first | (refine br_intro ?_ ?_ <;> intro hb <;> (try simp only [brs] at hb) <;> conv => whnf) | (refine RegX.rule (id := 8) hT rfl [] oTFlO57_8 (by decide +kernel) ?_; conv => whnf) | (refine RegX.rule (id := 13) hT rfl [] oTFlO57_13 (by decide +kernel) ?_; conv => whnf) | (refine RegX.rule (id := 14) hT rfl [] oTFlO57_14 (by decide +kernel) ?_; conv => whnf) | omega | (refine And.intro ?_ ?_; ((try dsimp only); first | omega | (refine szA rfl ?_; omega) | (refine szB rfl ?_; omega) | (unfold inI64; omega) | exact rfl | (simp only [lns] at *; omega) | decide | (unfold inI64; decide)); conv => whnf) | decide | assumption)
  · refine LoopX.freeze 12 201 2 _ _ rfl ?_
    refine LoopX.ent ?_ (tail sta1 ⟨by decide, by intro x hx; simp only [sta1, List.mem_singleton] at hx; subst hx; show _ ≤ 8; decide⟩)
    refine Entails.trans (Entails.froCell 3 12 2 _ 1 _ rfl rfl rfl) ?_
    refine Entails.trans (Entails.nilCell 3 20 124 2 2 (rowF vehF veh0 []) rfl rfl rfl (by decide) rfl) ?_
    exact (Entails.mk' [(1000000, 1000000), (2, 2), (3, 3), (10, 19), (20, 20)] rfl rfl ⟨lr, lr, lr, SV.le_lit rfl rfl, lr, lr, trivial⟩ ⟨rr, rr, Res.le_cellsL ⟨lr, lr, lr, lr, trivial⟩, Res.le_lit rfl rfl, rr, trivial⟩)
  · refine LoopX.freeze 12 201 2 _ _ rfl ?_
    refine LoopX.ent ?_ (tail st hst)
    refine Entails.trans (Entails.froCell 3 12 2 _ 1 _ rfl rfl rfl) ?_
    refine Entails.trans (Entails.nilCell 3 20 124 2 2 (rowF vehF veh0 []) rfl rfl rfl (by decide) rfl) ?_
    exact (Entails.mk' [(1000000, 1000000), (2, 2), (3, 3), (10, 10), (20, 20)] rfl rfl ⟨lr, lr, lr, SV.le_lit rfl rfl, lr, lr, trivial⟩ ⟨rr, rr, Res.le_cellsL ⟨lr, lr, lr, lr, trivial⟩, rr, rr, trivial⟩)
 clear hst st
 intro st hst
 refine LoopX.rule hT (C := []) (ι := Int × List Veh × Nat) (fun (b, vs, i) => (b2 ≤ b ∧ b ≤ b2 + 3 * i ∧ i ≤ 4) ∧ allK vehK i vs)
  (fun (b, vs, i) => mkSt [(0, .ptr 1000000 0), (2, .ptr 2 0), (3, .ptr 3 0), (21, .d (strs v4)), (22, .d (.int .i64 4)), (23, .d (.int .i64 i))] [(1000000, strm n L b), (2, nlC), (3, rfC0 cs), (10, staB st), (20, vehB vs)])
  (fun (_, _, i) => 4 - i) (b2, [], 0) ⟨⟨by simp, by simp, by simp⟩, ⟨by simp, by simp⟩⟩ (by (refine Entails.mk' [(1000000, 1000000), (2, 2), (3, 3), (10, 10), (20, 20)] rfl rfl ?_ ?_ <;> repeat' (first | exact True.intro | exact lr | exact rr | exact SV.le_int (by omega) | exact SV.le_any _ | refine And.intro ?_ ?_)); done) ?_
 rintro ⟨b, vs, i⟩ ⟨⟨p1, p2, p3⟩, p4⟩
 have p1 : b2 ≤ b := p1
 have p2 : b ≤ b2 + 3 * i := p2
 have p3 : i ≤ 4 := p3
 have p4 : allK vehK i vs := p4
 have hl1 : vs.length ≤ i := p4.1
 have hc4 := hc.1
 have hv4 : v4.length = 4 := rfl
 have e1 : (i : Int).toNat = i := Int.toNat_natCast i
 rcases Nat.lt_or_ge i 4 with hi | hi
 · conv => whnf
   repeat' (first | (refine CallX.of (s84 n L hL _ ?_ ?_ 6 ?_) [(1000000, 1000000)] rfl ⟨lr, lr, trivial⟩ ⟨rr, trivial⟩ rfl rfl ?_; rotate_right; rintro x rout ⟨⟨w, rfl⟩, ⟨c, c1, c2, rfl⟩⟩; refine ⟨rfl, ?_⟩; conv => whnf) | (refine CallX.of (s86 n L hL _ ?_ ?_ _ ?_) [(1000000, 1000000)] rfl ⟨lr, lr, trivial⟩ ⟨rr, trivial⟩ rfl rfl ?_; rotate_right; rintro x rout ⟨⟨j, hj1, hj2, hj3, rfl⟩, ⟨c, c1, c2, rfl⟩⟩; refine ⟨rfl, ?_⟩; conv => whnf) | (refine br_intro ?_ ?_ <;> intro hb <;> (try simp only [brs] at hb) <;> conv => whnf) | (refine RegX.rule (id := 8) hT rfl [] oTFlO57_8 (by decide +kernel) ?_; conv => whnf) | (refine RegX.rule (id := 13) hT rfl [] oTFlO57_13 (by decide +kernel) ?_; conv => whnf) | (refine RegX.rule (id := 14) hT rfl [] oTFlO57_14 (by decide +kernel) ?_; conv => whnf) | omega | (refine And.intro ?_ ?_; ((try dsimp only); first | omega | (refine szA rfl ?_; omega) | (refine szB rfl ?_; omega) | (unfold inI64; omega) | exact rfl | (simp only [lns] at *; omega) | decide | (unfold inI64; decide)); conv => whnf) | decide | assumption)
   all_goals try (exfalso; omega)
   · have hk1 : (v4.getD (i : Int).toNat []).length ≤ 8 := mem_len (getD_mem (by omega)) rfl
     have hk2 := (hc.2 (cs.getD j.toNat cls0) (getD_mem (by omega))).1
     exact ⟨(c + 1, vs ++ [⟨v4.getD (i : Int).toNat [], (cs.getD j.toNat cls0).key⟩], i + 1), ⟨⟨by omega, by show _ ≤ b2 + 3 * ((i + 1 : Nat) : Int); omega, by omega⟩, allK_snoc p4 (by omega) ⟨hk1, hk2⟩⟩, by show 4 - (i + 1) < 4 - i; omega,
      Entails.mk' [(1000000, 1000000), (2, 2), (3, 3), (10, 10), (20, 45)] rfl rfl ⟨lr, lr, lr, lr, lr, lr, trivial⟩ ⟨rr, rr, rr, rr, Res.le_snocF rfl, trivial⟩⟩
   · exact ⟨(c, vs, i + 1), ⟨⟨by omega, by show _ ≤ b2 + 3 * ((i + 1 : Nat) : Int); omega, by omega⟩, allK_le p4 (by omega)⟩, by show 4 - (i + 1) < 4 - i; omega, (by (refine Entails.mk' [(1000000, 1000000), (2, 2), (3, 3), (10, 10), (20, 20)] rfl rfl ?_ ?_ <;> repeat' (first | exact True.intro | exact lr | exact rr | exact SV.le_int (by omega) | exact SV.le_any _ | refine And.intro ?_ ?_)); done)⟩
 have hi4 : i = 4 := by omega
 subst hi4
 have hb3 : b ≤ b2 + 12 := by omega
 have p4v := p4
 have hlv : vs.length ≤ 4 := p4.1
 conv => whnf
 repeat' (first | (refine CallX.of (s64 n L hL _ ?_ ?_ 0 5 ?_ ?_ ?_ ?_) [(1000000, 1000000)] rfl ⟨lr, lr, lr, trivial⟩ ⟨rr, trivial⟩ rfl rfl ?_; rotate_right; rintro x rout ⟨⟨m, hm1, hm2, rfl⟩, ⟨c, c1, c2, rfl⟩⟩; refine ⟨rfl, ?_⟩; conv => whnf) | (refine br_intro ?_ ?_ <;> intro hb <;> (try simp only [brs] at hb) <;> conv => whnf) | (refine RegX.rule (id := 8) hT rfl [] oTFlO57_8 (by decide +kernel) ?_; conv => whnf) | (refine RegX.rule (id := 13) hT rfl [] oTFlO57_13 (by decide +kernel) ?_; conv => whnf) | (refine RegX.rule (id := 14) hT rfl [] oTFlO57_14 (by decide +kernel) ?_; conv => whnf) | omega | (refine And.intro ?_ ?_; ((try dsimp only); first | omega | (refine szA rfl ?_; omega) | (refine szB rfl ?_; omega) | (unfold inI64; omega) | exact rfl | (simp only [lns] at *; omega) | decide | (unfold inI64; decide)); conv => whnf) | decide | assumption)
 all_goals try (exfalso; omega)
 obtain ⟨b3, rfl⟩ : ∃ b3 : Int, b3 = c := ⟨_, rfl⟩
 refine LoopX.rule hT (C := []) (ι := Int × List Plt × Nat) (fun (b, ps, i) => (b3 ≤ b ∧ b ≤ b3 + 6 * i ∧ (i : Int) ≤ m) ∧ allK pltK i ps)
  (fun (b, ps, i) => mkSt [(0, .ptr 1000000 0), (2, .ptr 2 0), (3, .ptr 3 0), (49, .d (.int .i64 m)), (50, .d (.int .i64 i))] [(1000000, strm n L b), (2, nlC), (3, rfC cs), (10, staB st), (20, vehB vs), (30, pltB ps)])
  (fun (_, _, i) => (m - i).toNat) (b3, [], 0) ⟨⟨by simp, by simp, by simpa using hm1⟩, ⟨by simp, by simp⟩⟩ ?_ ?_
 · refine Entails.trans (Entails.nilCell 3 30 126 3 3 (rowF pltF plt0 []) rfl rfl rfl (by decide) rfl) ?_
   exact (by (refine Entails.mk' [(1000000, 1000000), (2, 2), (3, 3), (10, 10), (20, 20), (30, 30)] rfl rfl ?_ ?_ <;> repeat' (first | exact True.intro | exact lr | exact rr | exact SV.le_int (by omega) | exact SV.le_any _ | refine And.intro ?_ ?_)); done)
 rintro ⟨b, ps, i⟩ ⟨⟨p1, p2, p3⟩, p4⟩
 have p1 : b3 ≤ b := p1
 have p2 : b ≤ b3 + 6 * i := p2
 have p3 : (i : Int) ≤ m := p3
 have p4 : allK pltK i ps := p4
 have hl2 : ps.length ≤ i := p4.1
 rcases Int.lt_or_le (i : Int) m with hi | hi
 · conv => whnf
   repeat' (first | (refine CallX.of (s33 n L hL _ ?_ ?_ [0, 0, 50, 100, 200, 1000] ?_ ?_) [(1000000, 1000000)] rfl ⟨lr, SV.le_lit rfl rfl, trivial⟩ ⟨rr, trivial⟩ rfl rfl ?_; rotate_right; rintro x rout ⟨⟨u1, hu1, rfl⟩, ⟨c, c1, c2, rfl⟩⟩; have hw1 := pkD hu1 (by decide); refine ⟨rfl, ?_⟩; conv => whnf) | (refine CallX.of (s86 n L hL _ ?_ ?_ _ ?_) [(1000000, 1000000)] rfl ⟨lr, lr, trivial⟩ ⟨rr, trivial⟩ rfl rfl ?_; rotate_right; rintro x rout ⟨⟨j, hj1, hj2, hj3, rfl⟩, ⟨c, c1, c2, rfl⟩⟩; refine ⟨rfl, ?_⟩; conv => whnf) | (refine CallX.of (s15 n L hL _ ?_ ?_ [[65, 66, 49], [65, 66, 50], [90, 90, 57]] (by simp) (by simp)) [(1000000, 1000000)] rfl ⟨lr, SV.le_lit rfl rfl, trivial⟩ ⟨rr, trivial⟩ rfl rfl ?_; rotate_right; rintro x rout ⟨⟨u3, hu3, rfl⟩, ⟨c, c1, c2, rfl⟩⟩; have hw3 := mem_len hu3 rfl; refine ⟨rfl, ?_⟩; conv => whnf) | (refine br_intro ?_ ?_ <;> intro hb <;> (try simp only [brs] at hb) <;> conv => whnf) | (refine RegX.rule (id := 8) hT rfl [] oTFlO57_8 (by decide +kernel) ?_; conv => whnf) | (refine RegX.rule (id := 13) hT rfl [] oTFlO57_13 (by decide +kernel) ?_; conv => whnf) | (refine RegX.rule (id := 14) hT rfl [] oTFlO57_14 (by decide +kernel) ?_; conv => whnf) | omega | (refine And.intro ?_ ?_; ((try dsimp only); first | omega | (refine szA rfl ?_; omega) | (refine szB rfl ?_; omega) | (unfold inI64; omega) | exact rfl | (simp only [lns] at *; omega) | decide | (unfold inI64; decide)); conv => whnf) | decide | assumption)
   · refine .ret _ ?_
     conv => whnf
     exact ⟨[(10, staB st), (20, vehB vs), (30, pltB ps), (1000000, strm n L b)], ⟨st, cs, vs, ps, b, ⟨hst, hc, p4v, allK_le p4 (by omega)⟩, ⟨by omega, by omega⟩, rfl, rfl⟩, rr, rr, rr, rr, trivial⟩
   have hpk : pltK ⟨u1, (vs.getD j.toNat veh0).key, u3⟩ := ⟨⟨by show (-2^40 : Int) ≤ u1; omega, by show u1 ≤ 2^40; omega⟩, (p4v.2 _ (getD_mem (by omega))).1, by show u3.length ≤ 16; omega⟩
   have hps := allK_snoc p4 (show i + 1 ≤ 12 by omega) hpk
   have hcS := sSortPl 139 rfCmp (ps ++ [⟨u1, (vs.getD j.toNat veh0).key, u3⟩]) hps.1 (fun p q hp hq => z139 p q (hps.2 _ hp) (hps.2 _ hq))
   obtain ⟨QS, hQS⟩ : ∃ QS, QS = isort rfCmp (ps ++ [⟨u1, (vs.getD j.toNat veh0).key, u3⟩]) := ⟨_, rfl⟩
   have hq := hps
   have hQ : allK pltK (i + 1) QS := by
    have hp := isort_perm rfCmp (ps ++ [⟨u1, (vs.getD j.toNat veh0).key, u3⟩])
    rw [← hQS] at hp
    exact ⟨by rw [hp.length_eq, List.length_append]; show ps.length + 1 ≤ i + 1; omega, fun x hx => hps.2 x (hp.mem_iff.1 hx)⟩
   have hok : fltOk ⟨st, cs, vs, QS⟩ := ⟨⟨Nat.le_trans hst.1 (by decide), fun s hs => Nat.le_trans (hst.2 s hs) (by decide)⟩, ⟨by show cs.length ≤ 2^20; omega, fun s hs => ⟨Nat.le_trans (hc.2 s hs).1 (by decide), Nat.le_trans (hc.2 s hs).2 (by decide)⟩⟩,
    ⟨by show vs.length ≤ 2^20; omega, fun s hs => ⟨Nat.le_trans (p4v.2 s hs).1 (by decide), Nat.le_trans (p4v.2 s hs).2 (by decide)⟩⟩, ⟨by show QS.length ≤ 2^20; have := hQ.1; omega, fun s hs => ⟨(hQ.2 s hs).1, Nat.le_trans (hQ.2 s hs).2.1 (by decide), Nat.le_trans (hQ.2 s hs).2.2 (by decide)⟩⟩⟩
   rw [← hQS] at hcS
   refine CallX.of (z137 ps (by omega)) [(1000001, 30), (7, 75)] rfl ⟨lr, trivial⟩ ⟨rr, trivial⟩ rfl rfl ?_
   rintro x rout (⟨rfl, hnil, rfl⟩ | ⟨rfl, rfl⟩)
   · have hnil2 := hnil
     rw [hnil] at hcS
     refine ⟨rfl, ?_⟩
     conv => whnf
     repeat' (first | (refine br_intro ?_ ?_ <;> intro hb <;> (try simp only [brs] at hb) <;> conv => whnf) | (refine RegX.rule (id := 8) hT rfl [] oTFlO57_8 (by decide +kernel) ?_; conv => whnf) | (refine RegX.rule (id := 13) hT rfl [] oTFlO57_13 (by decide +kernel) ?_; conv => whnf) | (refine RegX.rule (id := 14) hT rfl [] oTFlO57_14 (by decide +kernel) ?_; conv => whnf) | omega | (refine And.intro ?_ ?_; ((try dsimp only); first | omega | (refine szA rfl ?_; omega) | (refine szB rfl ?_; omega) | (unfold inI64; omega) | exact rfl | (simp only [lns] at *; omega) | decide | (unfold inI64; decide)); conv => whnf) | decide | assumption)
     refine CallX.of hcS [(1000001, 78)] rfl ⟨lr, lr, trivial⟩ ⟨Res.le_lit rfl rfl, trivial⟩ rfl rfl ?_
     rintro x rout ⟨rfl, rfl⟩
     refine ⟨rfl, ?_⟩
     conv => whnf
     repeat' (first | (refine br_intro ?_ ?_ <;> intro hb <;> (try simp only [brs] at hb) <;> conv => whnf) | (refine RegX.rule (id := 8) hT rfl [] oTFlO57_8 (by decide +kernel) ?_; conv => whnf) | (refine RegX.rule (id := 13) hT rfl [] oTFlO57_13 (by decide +kernel) ?_; conv => whnf) | (refine RegX.rule (id := 14) hT rfl [] oTFlO57_14 (by decide +kernel) ?_; conv => whnf) | omega | (refine And.intro ?_ ?_; ((try dsimp only); first | omega | (refine szA rfl ?_; omega) | (refine szB rfl ?_; omega) | (unfold inI64; omega) | exact rfl | (simp only [lns] at *; omega) | decide | (unfold inI64; decide)); conv => whnf) | decide | assumption)
     refine CallX.of (z21l ⟨st, cs, vs, QS⟩ hok) [(1, 10), (3, 20), (4, 78)] rfl ⟨lr, trivial⟩ ⟨rr, rr, rr, trivial⟩ rfl rfl ?_
     rintro x rout ⟨rfl, rfl⟩
     refine ⟨rfl, ?_⟩
     conv => whnf
     repeat' (first | (refine br_intro ?_ ?_ <;> intro hb <;> (try simp only [brs] at hb) <;> conv => whnf) | (refine RegX.rule (id := 8) hT rfl [] oTFlO57_8 (by decide +kernel) ?_; conv => whnf) | (refine RegX.rule (id := 13) hT rfl [] oTFlO57_13 (by decide +kernel) ?_; conv => whnf) | (refine RegX.rule (id := 14) hT rfl [] oTFlO57_14 (by decide +kernel) ?_; conv => whnf) | omega | (refine And.intro ?_ ?_; ((try dsimp only); first | omega | (refine szA rfl ?_; omega) | (refine szB rfl ?_; omega) | (unfold inI64; omega) | exact rfl | (simp only [lns] at *; omega) | decide | (unfold inI64; decide)); conv => whnf) | decide | assumption)
     · exact ⟨(c, QS, i + 1), ⟨⟨by omega, by show _ ≤ b3 + 6 * ((i + 1 : Nat) : Int); omega, by show ((i + 1 : Nat) : Int) ≤ m; omega⟩, hQ⟩, by show (m - ((i + 1 : Nat) : Int)).toNat < (m - (i : Int)).toNat; omega, (by (refine Entails.mk' [(1000000, 1000000), (2, 2), (3, 3), (10, 10), (20, 20), (30, 78)] rfl rfl ?_ ?_ <;> repeat' (first | exact True.intro | exact lr | exact rr | exact SV.le_int (by omega) | exact SV.le_any _ | refine And.intro ?_ ?_)); done)⟩
     · exact ⟨(c, ps, i + 1), ⟨⟨by omega, by show _ ≤ b3 + 6 * ((i + 1 : Nat) : Int); omega, by show ((i + 1 : Nat) : Int) ≤ m; omega⟩, allK_le p4 (by omega)⟩, by show (m - ((i + 1 : Nat) : Int)).toNat < (m - (i : Int)).toNat; omega, (by (refine Entails.mk' [(1000000, 1000000), (2, 2), (3, 3), (10, 10), (20, 20), (30, 30)] rfl rfl ?_ ?_ <;> repeat' (first | exact True.intro | exact lr | exact rr | exact SV.le_int (by omega) | exact SV.le_any _ | refine And.intro ?_ ?_)); done)⟩
   · refine ⟨rfl, ?_⟩
     conv => whnf
     repeat' (first | (refine br_intro ?_ ?_ <;> intro hb <;> (try simp only [brs] at hb) <;> conv => whnf) | (refine RegX.rule (id := 8) hT rfl [] oTFlO57_8 (by decide +kernel) ?_; conv => whnf) | (refine RegX.rule (id := 13) hT rfl [] oTFlO57_13 (by decide +kernel) ?_; conv => whnf) | (refine RegX.rule (id := 14) hT rfl [] oTFlO57_14 (by decide +kernel) ?_; conv => whnf) | omega | (refine And.intro ?_ ?_; ((try dsimp only); first | omega | (refine szA rfl ?_; omega) | (refine szB rfl ?_; omega) | (unfold inI64; omega) | exact rfl | (simp only [lns] at *; omega) | decide | (unfold inI64; decide)); conv => whnf) | decide | assumption)
     refine CallX.of hcS [(1000001, 78)] rfl ⟨lr, lr, trivial⟩ ⟨Res.le_snocF rfl, trivial⟩ rfl rfl ?_
     rintro x rout ⟨rfl, rfl⟩
     refine ⟨rfl, ?_⟩
     conv => whnf
     repeat' (first | (refine br_intro ?_ ?_ <;> intro hb <;> (try simp only [brs] at hb) <;> conv => whnf) | (refine RegX.rule (id := 8) hT rfl [] oTFlO57_8 (by decide +kernel) ?_; conv => whnf) | (refine RegX.rule (id := 13) hT rfl [] oTFlO57_13 (by decide +kernel) ?_; conv => whnf) | (refine RegX.rule (id := 14) hT rfl [] oTFlO57_14 (by decide +kernel) ?_; conv => whnf) | omega | (refine And.intro ?_ ?_; ((try dsimp only); first | omega | (refine szA rfl ?_; omega) | (refine szB rfl ?_; omega) | (unfold inI64; omega) | exact rfl | (simp only [lns] at *; omega) | decide | (unfold inI64; decide)); conv => whnf) | decide | assumption)
     refine CallX.of (z21l ⟨st, cs, vs, QS⟩ hok) [(1, 10), (3, 20), (4, 78)] rfl ⟨lr, trivial⟩ ⟨rr, rr, rr, trivial⟩ rfl rfl ?_
     rintro x rout ⟨rfl, rfl⟩
     refine ⟨rfl, ?_⟩
     conv => whnf
     repeat' (first | (refine br_intro ?_ ?_ <;> intro hb <;> (try simp only [brs] at hb) <;> conv => whnf) | (refine RegX.rule (id := 8) hT rfl [] oTFlO57_8 (by decide +kernel) ?_; conv => whnf) | (refine RegX.rule (id := 13) hT rfl [] oTFlO57_13 (by decide +kernel) ?_; conv => whnf) | (refine RegX.rule (id := 14) hT rfl [] oTFlO57_14 (by decide +kernel) ?_; conv => whnf) | omega | (refine And.intro ?_ ?_; ((try dsimp only); first | omega | (refine szA rfl ?_; omega) | (refine szB rfl ?_; omega) | (unfold inI64; omega) | exact rfl | (simp only [lns] at *; omega) | decide | (unfold inI64; decide)); conv => whnf) | decide | assumption)
     · exact ⟨(c, QS, i + 1), ⟨⟨by omega, by show _ ≤ b3 + 6 * ((i + 1 : Nat) : Int); omega, by show ((i + 1 : Nat) : Int) ≤ m; omega⟩, hQ⟩, by show (m - ((i + 1 : Nat) : Int)).toNat < (m - (i : Int)).toNat; omega, (by (refine Entails.mk' [(1000000, 1000000), (2, 2), (3, 3), (10, 10), (20, 20), (30, 78)] rfl rfl ?_ ?_ <;> repeat' (first | exact True.intro | exact lr | exact rr | exact SV.le_int (by omega) | exact SV.le_any _ | refine And.intro ?_ ?_)); done)⟩
     · exact ⟨(c, ps, i + 1), ⟨⟨by omega, by show _ ≤ b3 + 6 * ((i + 1 : Nat) : Int); omega, by show ((i + 1 : Nat) : Int) ≤ m; omega⟩, allK_le p4 (by omega)⟩, by show (m - ((i + 1 : Nat) : Int)).toNat < (m - (i : Int)).toNat; omega, (by (refine Entails.mk' [(1000000, 1000000), (2, 2), (3, 3), (10, 10), (20, 20), (30, 30)] rfl rfl ?_ ?_ <;> repeat' (first | exact True.intro | exact lr | exact rr | exact SV.le_int (by omega) | exact SV.le_any _ | refine And.intro ?_ ?_)); done)⟩
 have him : (i : Int) = m := by omega
 conv => whnf
 repeat' (first | (refine br_intro ?_ ?_ <;> intro hb <;> (try simp only [brs] at hb) <;> conv => whnf) | (refine RegX.rule (id := 8) hT rfl [] oTFlO57_8 (by decide +kernel) ?_; conv => whnf) | (refine RegX.rule (id := 13) hT rfl [] oTFlO57_13 (by decide +kernel) ?_; conv => whnf) | (refine RegX.rule (id := 14) hT rfl [] oTFlO57_14 (by decide +kernel) ?_; conv => whnf) | omega | (refine And.intro ?_ ?_; ((try dsimp only); first | omega | (refine szA rfl ?_; omega) | (refine szB rfl ?_; omega) | (unfold inI64; omega) | exact rfl | (simp only [lns] at *; omega) | decide | (unfold inI64; decide)); conv => whnf) | decide | assumption)
 all_goals try (exfalso; omega)
 refine .ret _ ?_
 conv => whnf
 exact ⟨[(10, staB st), (20, vehB vs), (30, pltB ps), (1000000, strm n L b)], ⟨st, cs, vs, ps, b, ⟨hst, hc, p4v, allK_le p4 (by omega)⟩, ⟨by omega, by omega⟩, rfl, rfl⟩, rr, rr, rr, rr, trivial⟩
structure fltK (f : Flt) : Prop where
 sta : allK staK 4 f.sta
 cls : clsB f.cls
 veh : allK vehK 5 f.veh
 plt : allK pltK 6 f.plt
theorem fltK.ok {f : Flt} (h : fltK f) : fltOk f :=
 ⟨⟨Nat.le_trans h.sta.1 (by decide), fun s hs => Nat.le_trans (h.sta.2 s hs) (by decide)⟩, ⟨Nat.le_trans h.cls.1 (by decide), fun s hs => ⟨Nat.le_trans (h.cls.2 s hs).1 (by decide), Nat.le_trans (h.cls.2 s hs).2 (by decide)⟩⟩,
   ⟨Nat.le_trans h.veh.1 (by decide), fun s hs => ⟨Nat.le_trans (h.veh.2 s hs).1 (by decide), Nat.le_trans (h.veh.2 s hs).2 (by decide)⟩⟩, ⟨Nat.le_trans h.plt.1 (by decide), fun s hs => ⟨(h.plt.2 s hs).1, Nat.le_trans (h.plt.2 s hs).2.1 (by decide), Nat.le_trans (h.plt.2 s hs).2.2 (by decide)⟩⟩⟩
structure Nmd where
 ntc : List UInt8
 hire : List UInt8
 drv : List UInt8
 bby : Int
theorem hend_len (l : List Plt) (q : List UInt8) : ((hend l).out q).length ≤ l.length := by
 have key : ∀ (m : List Plt) (s : HS), ((m.foldl (fun s x => hdrop s x.plt 5761440) s).out q).length + (m.foldl (fun s x => hdrop s x.plt 5761440) s).live.length ≤ (s.out q).length + s.live.length := by
  intro m
  induction m with
  | nil => intro s; exact Nat.le_refl _
  | cons x m ih => intro s; exact Nat.le_trans (ih _) (hdrop_len s x.plt 5761440 q)
 have h1 := key l (hall l)
 have h2 := hall_len l q
 show (((l.foldl (fun s x => hdrop s x.plt 5761440) (hall l))).out q).length ≤ _
 omega
theorem hirIx_bd (l : List Hir) (v : List UInt8) (t : Int) : -1 ≤ hirIx l v t ∧ hirIx l v t < l.length := ⟨ixF_bd.1, ixF_bd.2.1⟩
theorem ownK_bd (o : List Hld) (l : List Hir) (t : Int) : -1 ≤ ownK o l t ∧ ownK o l t < l.length := by
 unfold ownK
 split
 · constructor <;> omega
 · exact hirIx_bd _ _ _
theorem fltE_srt {f : Flt} (h : fltE f = 0) : srtP f.plt ∧ f.plt.length ≤ 1000 := by
 unfold fltE at h
 have h0 : firstAt (pltE1 f) f.plt.length = 0 ∧ f.plt.length ≤ 1000 := by
  split at h
  · exact absurd h (by assumption)
  · split at h
    · exact absurd h (by assumption)
    · split at h
      · cases h
      · exact ⟨h, by omega⟩
 have h1 := firstAt_all h0.1
 refine ⟨?_, h0.2⟩
 unfold srtP
 rw [List.pairwise_iff_getElem]
 intro i j hi hj hij
 have := frm_mono (f := f) (i := j) (fun k hk hk0 => pltE1_cmp (h1 k (by omega)) hk0) j i (by omega) (by omega)
 rw [List.getD_eq_getElem?_getD, List.getD_eq_getElem?_getD, List.getElem?_eq_getElem hi, List.getElem?_eq_getElem hj] at this
 exact this
theorem nmd_eq {a b : Nmd} : a = b ↔ ((a.ntc = b.ntc ∧ a.hire = b.hire) ∧ a.drv = b.drv) ∧ a.bby = b.bby := by cases a; cases b; simp [and_assoc]
instance : DecidableEq Nmd := fun _ _ => decidable_of_iff _ nmd_eq.symm
theorem ixF_first {p : Nat → Bool} : ∀ {n : Nat} (j : Nat), j < n → (ixF p n = -1 ∨ (j : Int) < ixF p n) → p j = false := by
 intro n
 induction n with
 | zero => intro j hj; omega
 | succ n ih =>
   intro j hj h
   rw [ixF] at h
   by_cases q : ixF p n = -1
   · rw [if_pos q] at h
     rcases Nat.lt_or_ge j n with r | r
     · exact ih j r (.inl q)
     · obtain rfl : j = n := by omega
       cases hp : p j with
       | false => rfl
       | true => rw [if_pos hp] at h; omega
   · rw [if_neg q] at h
     have hb := (ixF_bd (p := p) (n := n)).2.1
     exact ih j (by omega) (by omega)
end Go.Proofs.YtcjfniddeibbhaaGreatDoor
namespace Go.Eng
open Go Go.Proofs Go.Sort Go.RowKit
end Go.Eng
namespace Go.Proofs
open Go.Shelf
end Go.Proofs
set_option maxRecDepth 20000
namespace Go.Proofs.YtcjfniddeibbhaaGreatDoor
open Go Go.Eng
theorem less_tot : ∀ {a b : List UInt8}, Op.bytesLess a b = false → a ≠ b → Op.bytesLess b a = true := by
 intro a
 induction a with
 | nil => intro b h hn; cases b with
   | nil => exact absurd rfl hn
   | cons y b => simp [Op.bytesLess] at h
 | cons x a ih =>
   intro b h hn
   cases b with
   | nil => rfl
   | cons y b =>
     simp only [Op.bytesLess] at h ⊢
     by_cases hxy : x = y
     · subst hxy
       simp at h ⊢
       exact ih h (fun q => hn (by rw [q]))
     · rcases Nat.lt_or_gt_of_ne (fun q => hxy (UInt8.toNat_inj.1 q)) with q | q
       · have : x < y := UInt8.lt_iff_toNat_lt.2 q
         simp [this] at h
       · have : y < x := UInt8.lt_iff_toNat_lt.2 q
         simp [this]
section
variable {v : List UInt8} {a b : Int} {l : List Hir}
end
theorem key_sorted {l : List Hir} (h : hirsE l = 0) : (∀ g ∈ l, g.key ≠ []) ∧ l.Pairwise fun g h => Op.bytesLess g.key h.key = true := by
 have hq := hirs_seq h
 refine ⟨fun g hg e => ?_, ?_⟩
 · have := hq.1 g hg
   unfold hirE at this
   rw [if_pos (.inl (by rw [e]; decide))] at this
   cases this
 · have next : ∀ i, i + 1 < l.length → Op.bytesLess (l.getD i hi0).key (l.getD (i + 1) hi0).key = true := fun i hi => by
    have := hq.2 (i + 1) (by omega) hi
    rw [Nat.add_sub_cancel] at this
    unfold strLe at this
    rw [Bool.or_eq_false_iff] at this
    exact less_tot this.1 (by simpa using this.2)
   have all : ∀ d i, i + d + 1 < l.length → Op.bytesLess (l.getD i hi0).key (l.getD (i + d + 1) hi0).key = true := by
    intro d
    induction d with
    | zero => intro i hi; exact next i hi
    | succ d ih => intro i hi; exact less_trans (ih i (by omega)) (next (i + d + 1) hi)
   rw [List.pairwise_iff_getElem]
   intro i j hi hj hij
   have := all (j - i - 1) i (by omega)
   rw [show i + (j - i - 1) + 1 = j by omega, List.getD_eq_getElem?_getD, List.getD_eq_getElem?_getD, List.getElem?_eq_getElem hi, List.getElem?_eq_getElem hj] at this
   exact this
section
variable {v : List UInt8} {a b : Int} {l : List Hir}
end
def wearV (l : List Plt) (p : List UInt8) (t : Int) : List UInt8 := ((findP (worn l t) p).map (·.veh)).getD []
def ownR (l : List Plt) (h : List Hir) (p : List UInt8) (t : Int) : List UInt8 := if wearV l p t = [] then [] else (withK (wearV l p t) h t).1
def keyIx (h : List Hir) (k : List UInt8) : Int := ixF (fun i => (h.getD i hi0).key == k) h.length
theorem fltE_plt {f : Flt} (h : fltE f = 0) : ∀ j, j < f.plt.length → pltE1 f j = 0 := by
 unfold fltE at h
 have h0 : firstAt (pltE1 f) f.plt.length = 0 := by
  split at h
  · exact absurd h (by assumption)
  · split at h
    · exact absurd h (by assumption)
    · split at h
      · cases h
      · exact h
 exact firstAt_all h0
theorem fltE_mom {f : Flt} (h : fltE f = 0) : ∀ e ∈ f.plt, e.frm < 5761440 := by
 intro e he
 obtain ⟨j, hj, rfl⟩ := mem_getD (d := plt0) he
 have := fltE_plt h j hj
 unfold pltE1 at this
 grind
theorem fltE_apr {f : Flt} (h : fltE f = 0) : aprP f.plt := by
 have h1 := fltE_plt h
 unfold aprP
 rw [List.pairwise_iff_getElem]
 intro i j hi hj hij he
 have h2 := h1 j hj
 unfold pltE1 at h2
 have h3 : ((f.plt.take j).any (twP (f.plt.getD j plt0))) = false := by
  cases hq : ((f.plt.take j).any (twP (f.plt.getD j plt0))) with
  | false => rfl
  | true => rw [hq] at h2; grind
 rw [List.any_eq_false] at h3
 have h4 := h3 f.plt[i] (by rw [List.mem_take_iff_getElem]; exact ⟨i, by omega, rfl⟩)
 have e1 : f.plt.getD j plt0 = f.plt[j] := by rw [List.getD_eq_getElem?_getD, List.getElem?_eq_getElem hj]; rfl
 rw [e1] at h4
 unfold twP at h4
 unfold clashP
 grind
theorem look_wear {f : Flt} (h : fltE f = 0) {t : Int} (ht : t < 5761440) (p : List UInt8) : lookV ((hend f.plt).out p) t = wearV f.plt p t := by
 unfold lookV wearV
 rw [hend_eq (fltE_srt h).1 (fltE_mom h) ht p, worn_liv (fltE_srt h).1 (fltE_apr h) t]
theorem hir_with (h : List Hir) (v : List UInt8) (t : Int) : (withK v h t).1 = if hirIx h v t < 0 then [] else (h.getD (hirIx h v t).toNat hi0).key := by
 have hb := ixF_bd (p := fun i => occ v (h.getD i hi0) t) (n := h.length)
 have hf := ixF_first (p := fun i => occ v (h.getD i hi0) t) (n := h.length)
 unfold hirIx
 split
 · rw [withK_no (fun j hj => hf j hj (.inl (by omega)))]
 · rw [withK_yes (i := (ixF (fun i => occ v (h.getD i hi0) t) h.length).toNat) (by omega) (fun j hj => hf j (by omega) (.inr (by omega))) (hb.2.2 (by omega))]
theorem key_ix {h : List Hir} (hh : hirsE h = 0) {i : Nat} (hi : i < h.length) : keyIx h (h.getD i hi0).key = i := by
 refine ixF_hit hi (fun j hj => ?_) (by simp)
 have hp := (key_sorted hh).2
 rw [List.pairwise_iff_getElem] at hp
 have := hp j i (by omega) hi hj
 rw [List.getD_eq_getElem?_getD, List.getD_eq_getElem?_getD, List.getElem?_eq_getElem hi, List.getElem?_eq_getElem (by omega : j < h.length)]
 simp only [Option.getD_some]
 rw [beq_eq_false_iff_ne]
 intro e
 rw [e, less_irr] at this
 cases this
theorem own_key {f : Flt} {h : List Hir} (E1 : fltE f = 0) (E2 : hirsE h = 0) {t : Int} (ht : t < 5761440) (p : List UInt8) :
 (ownK ((hend f.plt).out p) h t < 0 ∧ ownR f.plt h p t = []) ∨ (0 ≤ ownK ((hend f.plt).out p) h t ∧ ownR f.plt h p t = (h.getD (ownK ((hend f.plt).out p) h t).toNat hi0).key ∧ ownR f.plt h p t ≠ [] ∧ keyIx h (ownR f.plt h p t) = ownK ((hend f.plt).out p) h t) := by
 unfold ownK ownR
 rw [look_wear E1 ht p, hir_with]
 have hb := hirIx_bd h (wearV f.plt p t) t
 by_cases q : wearV f.plt p t = []
 · rw [if_pos q, if_pos q]; exact .inl ⟨by decide, rfl⟩
 · rw [if_neg q, if_neg q]
   by_cases q2 : hirIx h (wearV f.plt p t) t < 0
   · rw [if_pos q2]; exact .inl ⟨q2, rfl⟩
   · rw [if_neg q2]
     have hi : (hirIx h (wearV f.plt p t) t).toNat < h.length := by omega
     refine .inr ⟨by omega, rfl, (key_sorted E2).1 _ (getD_mem hi), ?_⟩
     rw [key_ix E2 hi]; omega
theorem s130 (D C F : Int) (l : List Pas) (hl : l.length ≤ 1000) (hp : ∀ p ∈ l, 0 ≤ p.tm ∧ p.tm ≤ 5761439) :
 FSpec Tryz.prog 127 [.agg [.d (.int .i64 D), .d (.int .i64 C), .d (.int .i64 F)], .d (pass l)] [] (fun x r => x = .d (seqD 1 bF false (fillA false (dblB D l) l.length l.length)) ∧ r = []) := by
 refine spec_of hT (C := []) Tryz.func127 rfl Tryz.call127 rfl rfl rfl ?_
 conv => whnf
 repeat' (first | (refine br_intro ?_ ?_ <;> intro hb <;> (try simp only [brs] at hb) <;> conv => whnf) | omega | (refine And.intro ?_ ?_; ((try dsimp only); first | omega | (refine szA rfl ?_; omega) | (refine szB rfl ?_; omega) | (unfold inI64; omega) | exact rfl | (simp only [lns] at *; omega) | decide | (unfold inI64; decide)); conv => whnf) | decide | assumption)
 refine LoopX.rule hT (C := []) (ι := Nat) (fun i => i ≤ l.length) (fun i => mkSt [(2, .ptr 2 0), (5, .mp 5), (6, .buf 6), (16, .d (pass l)), (17, .d (.int .i64 l.length)), (18, .d (.int .i64 i))] [(2, .cells 95 [.d (.int .i64 D), .d (.int .i64 C), .d (.int .i64 F)]), (5, seenR (dblM D l i)), (6, seqB 4 1 bF false (fillA false (dblB D l) l.length i))]) (fun i => l.length - i) 0 (by omega) ?_ ?_
 · refine Entails.mk' [(2, 2), (5, 12), (6, 15)] rfl rfl ⟨lr, lr, lr, lr, lr, lr, trivial⟩ ⟨rr, Res.le_map (fun key hk => ?_), Res.le_buf (by rw [fillA_length]; rfl) (fun j hj => ?_), trivial⟩
   · obtain ⟨a, b, rfl⟩ := wk_ss hk
     exact ⟨rfl, rfl⟩
   · have hj : j < l.length := hj
     rw [rowF_lt (by rw [fillA_length]; exact hj)]
     simp [fillA, bF]
     rfl
 rintro i p1
 have e1 : (i : Int).toNat = i := Int.toNat_natCast i
 have hpi : (i : Int) < l.length → 0 ≤ (l.getD (i : Int).toNat pa0).tm ∧ (l.getD (i : Int).toNat pa0).tm ≤ 5761439 := fun hi => hp _ (getD_mem (by omega))
 have hlen : (fillA false (dblB D l) l.length i).length = l.length := fillA_length
 have hm : ∀ q, 0 ≤ (dblM D l i q).getD 0 ∧ (dblM D l i q).getD 0 ≤ 5761439 := fun q => by
  cases hq : dblM D l i q with
  | none => simp
  | some t => simpa using dblM_bd hp i p1 q t hq
 have hm0 := hm ((l.getD (i : Int).toNat pa0).plate, (l.getD (i : Int).toNat pa0).gate)
 conv => whnf
 repeat' (first | (refine And.intro (rfl : zrow _ = some [DV.int .i64 0]) ?_; conv => whnf) | (simp only [Nat.beq_refl, cond_true]; conv => whnf) | (refine br_intro ?_ ?_ <;> intro hb <;> (try simp only [brs] at hb) <;> conv => whnf) | omega | (refine And.intro ?_ ?_; ((try dsimp only); first | omega | (refine szA rfl ?_; omega) | (refine szB rfl ?_; omega) | (unfold inI64; omega) | exact rfl | (simp only [lns] at *; omega) | decide | (unfold inI64; decide)); conv => whnf) | decide | assumption)
 · rename_i hb1
   have hB : dblB D l i = false := by rw [dblB_eq, decide_eq_false (by omega), Bool.and_false]
   have hM : ∀ a b, dblM D l (i + 1) (a, b) = if a = (l.getD i pa0).plate ∧ b = (l.getD i pa0).gate then some (l.getD i pa0).tm else dblM D l i (a, b) := fun a b => by
    rw [dblM, if_neg (by show ¬ dblB D l i = true; rw [hB]; simp)]
    simp [Prod.ext_iff]
   refine ⟨i + 1, by omega, by omega, Entails.mk' [(2, 2), (5, 5), (6, 6)] rfl rfl ⟨lr, lr, lr, lr, lr, lr, trivial⟩ ⟨rr, Res.le_map (fun key hk => ?_), ?_, trivial⟩⟩
   · obtain ⟨a, b, rfl⟩ := wk_ss hk
     rw [e1]
     simp only [keyEq, keyEq1, Bool.and_true, mHas, mVal, hM]
     by_cases hab : a = (l.getD i pa0).plate ∧ b = (l.getD i pa0).gate
     · rw [if_pos hab, hab.1, hab.2]; simp
     · rw [if_neg hab]
       have : (a == (l.getD i pa0).plate && b == (l.getD i pa0).gate) = false := by
        cases hq : (a == (l.getD i pa0).plate && b == (l.getD i pa0).gate) with
        | false => rfl
        | true => simp at hq; exact absurd hq hab
       rw [this]; simp
   · rw [← fillA_set' (x := false) hB.symm]
     first
      | exact Res.le_putF (fun y _ => rfl)
      | (refine Res.le_putF (x := false) (fun y _ => ?_)
         show [DV.bool _] = [DV.bool _]
         rw [e1]; simpa using hb)
 · rename_i hb1
   have hB : dblB D l i = true := by rw [dblB_eq, decide_eq_true hb, Bool.and_true]; exact hb1
   refine ⟨i + 1, by omega, by omega, Entails.mk' [(2, 2), (5, 5), (6, 6)] rfl rfl ⟨lr, lr, lr, lr, lr, lr, trivial⟩ ⟨rr, ?_, ?_, trivial⟩⟩
   · have : dblM D l (i + 1) = dblM D l i := by rw [dblM]; exact if_pos hB
     rw [this]; exact rr
   · rw [← fillA_set' (x := decide ((l.getD (i : Int).toNat pa0).tm - (dblM D l i ((l.getD (i : Int).toNat pa0).plate, (l.getD (i : Int).toNat pa0).gate)).getD 0 < D)) (by rw [hB, e1]; simpa using hb)]
     exact Res.le_putF (fun y _ => rfl)
 · have hB : dblB D l i = false := by
    rw [dblB_eq, Bool.and_eq_false_iff]; exact .inl hb
   have hM : ∀ a b, dblM D l (i + 1) (a, b) = if a = (l.getD i pa0).plate ∧ b = (l.getD i pa0).gate then some (l.getD i pa0).tm else dblM D l i (a, b) := fun a b => by
    rw [dblM, if_neg (by show ¬ dblB D l i = true; rw [hB]; simp)]
    simp [Prod.ext_iff]
   refine ⟨i + 1, by omega, by omega, Entails.mk' [(2, 2), (5, 5), (6, 6)] rfl rfl ⟨lr, lr, lr, lr, lr, lr, trivial⟩ ⟨rr, Res.le_map (fun key hk => ?_), ?_, trivial⟩⟩
   · obtain ⟨a, b, rfl⟩ := wk_ss hk
     rw [e1]
     simp only [keyEq, keyEq1, Bool.and_true, mHas, mVal, hM]
     by_cases hab : a = (l.getD i pa0).plate ∧ b = (l.getD i pa0).gate
     · rw [if_pos hab, hab.1, hab.2]; simp
     · rw [if_neg hab]
       have : (a == (l.getD i pa0).plate && b == (l.getD i pa0).gate) = false := by
        cases hq : (a == (l.getD i pa0).plate && b == (l.getD i pa0).gate) with
        | false => rfl
        | true => simp at hq; exact absurd hq hab
       rw [this]; simp
   · rw [← fillA_set' (x := false) hB.symm]
     first
      | exact Res.le_putF (fun y _ => rfl)
      | (refine Res.le_putF (x := false) (fun y _ => ?_)
         show [DV.bool _] = [DV.bool _]
         rw [e1]; simpa using hb)
 · refine .freeze _ 6 4 1 _ _ rfl ?_
   have : i = l.length := by omega
   subst this
   refine .ret _ ?_
   conv => whnf
   refine ⟨[], ⟨?_, rfl⟩, trivial⟩
   conv => lhs; whnf
theorem s65 (g : List Gate) (D C F : Int) (l : List Pas) (hg : gOk g) (hl : pOk l) :
 FSpec Tryz.prog 59 [.d (gates g), .agg [.d (.int .i64 D), .d (.int .i64 C), .d (.int .i64 F)], .d (pass l)] [] (fun x r => x = .tup [.d (if dblsE D C F g l = 0 then ints (dblIx D l l.length) else .nilsl), .d (.int .i64 (dblsE D C F g l))] ∧ r = []) := by
 refine spec_of hT (C := []) Tryz.func59 rfl Tryz.call59 rfl rfl rfl ?_
 conv => whnf
 repeat' (first | (refine CallX.exact (s66 _ _ _) rfl rfl ?_; rotate_right; conv => whnf) | (refine CallX.exact (s90 g l hg hl) rfl rfl ?_; rotate_right; conv => whnf) | (refine CallX.pure (s105 [_, _] (by simp)) ⟨SV.le_lit (by rfl) (by rfl), trivial⟩ rfl ?_; conv => whnf) | (refine br_intro ?_ ?_ <;> intro hb <;> (try simp only [brs] at hb) <;> conv => whnf) | omega | (refine And.intro ?_ ?_; ((try dsimp only); first | omega | (refine szA rfl ?_; omega) | (refine szB rfl ?_; omega) | (unfold inI64; omega) | exact rfl | (simp only [lns] at *; omega) | decide | (unfold inI64; decide)); conv => whnf) | decide | assumption)
 · have hb : ¬ dblsE D C F g l = 0 := hb
   refine .ret _ ?_
   conv => whnf
   refine ⟨[], ⟨congrArg SV.tup ?_, rfl⟩, trivial⟩
   repeat' (refine cons_eq ?_ ?_)
   all_goals (conv => lhs; whnf)
   all_goals try (with_reducible rfl)
   · rw [if_neg hb]
   · rfl
 have hb : dblsE D C F g l = 0 := hb
 rw [hb]
 have hz : chkE g l = 0 := by simp only [dblsE, firstE] at hb; grind
 obtain ⟨⟨n1, n2⟩, n3, n4⟩ := chk_zero hz
 repeat' (first | (refine CallX.exact (s130 _ _ _ l n3 n4) rfl rfl ?_; rotate_right; conv => whnf) | (refine br_intro ?_ ?_ <;> intro hb <;> (try simp only [brs] at hb) <;> conv => whnf) | omega | (refine And.intro ?_ ?_; ((try dsimp only); first | omega | (refine szA rfl ?_; omega) | (refine szB rfl ?_; omega) | (unfold inI64; omega) | exact rfl | (simp only [lns] at *; omega) | decide | (unfold inI64; decide)); conv => whnf) | decide | assumption)
 refine LoopX.rule hT (C := []) (ι := Nat) (fun i => i ≤ l.length) (fun i => mkSt [(9, .buf 9), (24, .d (seqD 1 bF false (fillA false (dblB D l) l.length l.length))), (25, .d (.int .i64 l.length)), (26, .d (.int .i64 i))] [(9, seqB 3 1 iF 0 (dblIx D l i))]) (fun i => l.length - i) 0 (by omega) ?_ ?_
 · exact (Entails.nil 9 9 3 1 (rowF iF 0 []) rfl rfl (by decide)).trans (by (refine Entails.mk' [(9, 9)] rfl rfl ?_ ?_ <;> repeat' (first | exact True.intro | exact lr | exact rr | (refine SV.le_int ?_; rw [fillA_length]) | exact SV.le_int (by omega) | exact SV.le_any _ | refine And.intro ?_ ?_)); done)
 rintro i p1
 have e1 : (i : Int).toNat = i := Int.toNat_natCast i
 have hlen : (fillA false (dblB D l) l.length l.length).length = l.length := fillA_length
 have hdl := dblIx_len (D := D) (l := l) (n := i)
 conv => whnf
 repeat' (first | (refine br_intro ?_ ?_ <;> intro hb <;> (try simp only [brs] at hb) <;> conv => whnf) | omega | (refine And.intro ?_ ?_; ((try dsimp only); first | omega | (refine szA rfl ?_; omega) | (refine szB rfl ?_; omega) | (unfold inI64; omega) | exact rfl | (simp only [lns] at *; omega) | decide | (unfold inI64; decide)); conv => whnf) | decide | assumption)
 · rw [fillA_get (by omega)] at hb
   refine ⟨i + 1, by omega, by omega, Entails.mk' [(9, 35)] rfl rfl ⟨lr, lr, lr, lr, trivial⟩ ⟨?_, trivial⟩⟩
   rw [dblIx_succ, if_pos hb]; exact Res.le_snocF (by rfl)
 · rw [fillA_get (by omega)] at hb
   refine ⟨i + 1, by omega, by omega, Entails.mk' [(9, 9)] rfl rfl ⟨lr, lr, lr, lr, trivial⟩ ⟨?_, trivial⟩⟩
   rw [dblIx_succ, if_neg (by rw [hb]; simp), List.append_nil]; exact rr
 · have : i = l.length := by omega
   subst this
   refine .freeze _ 9 3 1 _ _ rfl ?_
   refine .ret _ ?_
   conv => whnf
   refine ⟨[], ⟨congrArg SV.tup ?_, rfl⟩, trivial⟩
   repeat' (refine cons_eq ?_ ?_)
   all_goals (conv => lhs; whnf)
   all_goals try (with_reducible rfl)
   rw [if_pos rfl]
theorem chk_on {g : List Gate} {l : List Pas} (h : chkE g l = 0) : ∀ j, j < l.length → 0 ≤ gateIx g (l.getD j pa0).gate ∧ 0 ≤ trueT g (l.getD j pa0) ∧ trueT g (l.getD j pa0) ≤ 5761439 := by
 unfold chkE at h
 have h0 : firstAt (onG g l) l.length = 0 := by
  split at h
  · exact absurd h (by assumption)
  · split at h
    · exact absurd h (by assumption)
    · exact h
 intro j hj
 have := firstAt_all h0 j hj
 unfold onG at this
 grind
theorem fltE_veh {f : Flt} (h : fltE f = 0) : ∀ j, j < f.veh.length → vehE1 f j = 0 := by
 unfold fltE at h
 have h0 : firstAt (vehE1 f) f.veh.length = 0 := by
  split at h
  · exact absurd h (by assumption)
  · split at h
    · exact absurd h (by assumption)
    · rename_i q; simpa using q
 exact firstAt_all h0
theorem plt_veh {f : Flt} (h : fltE f = 0) : ∀ e ∈ f.plt, e.veh ≠ [] := by
 intro e he q
 obtain ⟨j, hj, rfl⟩ := mem_getD (d := plt0) he
 have h1 := fltE_plt h j hj
 unfold pltE1 at h1
 have h2 : 0 ≤ veIx f.veh (f.plt.getD j plt0).veh := by grind
 have hb := ixF_bd (p := fun i => (f.veh.getD i veh0).key == (f.plt.getD j plt0).veh) (n := f.veh.length)
 have h3 := hb.2.2 h2
 have h4 := hb.2.1
 have h5 := fltE_veh h (ixF (fun i => (f.veh.getD i veh0).key == (f.plt.getD j plt0).veh) f.veh.length).toNat (by unfold veIx at h2; omega)
 unfold vehE1 at h5
 simp only [beq_iff_eq] at h3
 rw [h3, q] at h5
 rw [if_pos (by decide)] at h5
 cases h5
end Go.Proofs.YtcjfniddeibbhaaGreatDoor
