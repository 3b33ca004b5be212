/- EntriesMerge is proved: for every input the law returns true, and its argument reads afterwards as it read before. Conditions: those of the given row alone. -/
import Derived.Test.YtobgeiclibhiiaaGreatDoorUConOne
import Derived.Test.YtobgeiclibhiiaaGreatDoorUConTwo
import Derived.Test.YtobgeiclibhiiaaGreatDoorUEngTwo
set_option linter.unusedVariables false
set_option linter.unusedSimpArgs false
set_option maxRecDepth 20000
namespace Go.Proofs.YtobgeiclibhiiaaGreatDoor
open Go Go.Eng
def oUTaA84_18 : List (Nat × List Nat) := [(0, []), (1, []), (2, [0, 1]), (3, [0, 1]), (5, [0, 1, 2, 3]), (6, [0, 1, 2, 3]), (7, [0, 1, 2, 3, 5, 6]), (8, [0, 1, 2, 3, 5, 6]), (4, [5, 6, 7, 8]), (9, []), (10, []), (11, []), (12, [])]
def oUTaA97_6 : List (Nat × List Nat) := [(0, []), (1, []), (2, [0, 1]), (3, [0, 1]), (4, [0, 1, 2, 3]), (5, [0, 1, 2, 3]), (6, [0, 1, 2, 3, 4, 5]), (7, [0, 1, 2, 3, 4, 5]), (8, []), (9, [0, 1, 2, 3, 4, 5, 6, 7, 8]), (10, [0, 1, 2, 3, 4, 5, 6, 7, 8]), (11, [0, 1, 2, 3, 4, 5, 6, 7, 8, 9, 10]), (12, [0, 1, 2, 3, 4, 5, 6, 7, 8, 9, 10]), (13, [0, 1, 2, 3, 4, 5, 6, 7, 8, 9, 10, 11, 12]), (14, [0, 1, 2, 3, 4, 5, 6, 7, 8, 9, 10, 11, 12]), (15, [0, 1, 2, 3, 4, 5, 6, 7, 8, 9, 10, 11, 12, 13, 14]), (16, [0, 1, 2, 3, 4, 5, 6, 7, 8, 9, 10, 11, 12, 13, 14]), (17, [0, 1, 2, 3, 4, 5, 6, 7, 8]), (18, [9, 10, 11, 12, 13, 14, 15, 16, 17]), (19, [])]
structure Rat where
 cls : List UInt8
 frm : Int
 to : Int
 hr : Int
 dy : Int
 we : Int
 wk : Int
def ratF (x : Rat) : List DV := [.str x.cls, .int .i64 x.frm, .int .i64 x.to, .int .i64 x.hr, .int .i64 x.dy, .int .i64 x.we, .int .i64 x.wk]
def rat0 : Rat := ⟨[], 0, 0, 0, 0, 0, 0⟩
abbrev rats (l : List Rat) : DV := seqD 7 ratF rat0 l
def numO (n : Int) : Prop := -1 ≤ n ∧ n ≤ 1000000
instance (n : Int) : Decidable (numO n) := by unfold numO; infer_instance
def nums (x : Rat) : Prop := numO x.hr ∧ numO x.dy ∧ numO x.we ∧ numO x.wk
instance (x : Rat) : Decidable (nums x) := by unfold nums; infer_instance
theorem cmp2_ge (a b : List UInt8) (m n : Int) : (0 ≤ firstE [cmpS a b, cmpI m n]) = (Op.bytesLess b a = true ∨ (a = b ∧ n ≤ m)) := by
 apply propext
 unfold firstE cmpS cmpI firstE firstE
 have h1 := less_tri a b
 have h2 := less_irr a
 grind [less_trans]
theorem cmp2s_ge (a b c d : List UInt8) : (0 ≤ firstE [cmpS a b, cmpS c d]) = (Op.bytesLess b a = true ∨ (a = b ∧ strLe d c = true)) := by
 apply propext
 unfold firstE cmpS firstE firstE strLe
 have h1 := less_tri a b
 have h2 := less_irr a
 have h3 := less_tri c d
 have h4 := less_irr c
 grind [less_trans]
theorem cmp2_lt (a b : List UInt8) (m n : Int) : (firstE [cmpS a b, cmpI m n] < 0) = ¬ (Op.bytesLess b a = true ∨ (a = b ∧ n ≤ m)) := by
 rw [← cmp2_ge]; exact propext Int.not_le.symm
theorem cmp2s_lt (a b c d : List UInt8) : (firstE [cmpS a b, cmpS c d] < 0) = ¬ (Op.bytesLess b a = true ∨ (a = b ∧ strLe d c = true)) := by
 rw [← cmp2s_ge]; exact propext Int.not_le.symm
def ratE (l : List Rat) (i : Nat) : Int :=
 let x := l.getD i rat0
 let q := l.getD (i - 1) rat0
 if isKeyB x.cls = false then 5 else if ¬ (0 ≤ x.frm ∧ x.frm < x.to ∧ x.to ≤ 4001 ∧ nums x) then 1 else if 0 < i ∧ (Op.bytesLess x.cls q.cls = true ∨ (q.cls = x.cls ∧ x.frm ≤ q.frm)) then 7 else if 0 < i ∧ q.cls = x.cls ∧ x.frm < q.to then 13 else 0
def ratsE (l : List Rat) : Int := if 200 < l.length then 2 else firstAt (ratE l) l.length
def ratK (x : Rat) : Prop := x.cls.length ≤ 2^40
def ratOk (l : List Rat) : Prop := l.length ≤ 2^40 ∧ ∀ x ∈ l, ratK x
theorem min4_lt (p q r t c : Int) : (min (min (min p q) r) t < c) = (p < c ∨ q < c ∨ r < c ∨ t < c) := by apply propext; omega
theorem max4_gt (p q r t c : Int) : (c < max (max (max p q) r) t) = (c < p ∨ c < q ∨ c < r ∨ c < t) := by apply propext; omega
set_option maxHeartbeats 4000000 in
theorem y149 (l : List Rat) (hk : ratOk l) : FSpec Tryz.prog 84 [.d (rats l)] [] (fun x r => x = .d (.int .i64 (ratsE l)) ∧ r = []) := by
 refine spec_of hT (C := []) Tryz.func84 rfl Tryz.call84 rfl rfl rfl ?_
 conv => whnf
 refine br_intro (fun h0 => ?_) (fun h0 => ?_)
 · simp at h0
   conv => whnf
   refine .ret _ ?_
   conv => whnf
   refine ⟨[], ⟨?_, rfl⟩, trivial⟩
   conv => lhs; whnf
   unfold ratsE; rw [if_pos (by omega)]
 simp at h0
 conv => whnf
 refine LoopX.rule hT (C := []) (ι := Nat) (fun i => i ≤ l.length ∧ ∀ j, j < i → ratE l j = 0) (fun i => mkSt [(0, .d (rats l)), (11, .d (rats l)), (12, .d (.int .i64 l.length)), (13, .d (.int .i64 i))] []) (fun i => l.length - i) 0 ⟨by omega, by omega⟩ (by (refine Entails.mk' [] rfl rfl ?_ ?_ <;> repeat' (first | exact True.intro | exact lr | exact rr | exact SV.le_int (by omega) | exact SV.le_any _ | refine And.intro ?_ ?_)); done) ?_
 rintro i ⟨p1, p2⟩
 have hx : (i : Int) < l.length → ratK (l.getD (i : Int).toNat rat0) := fun hi => hk.2 _ (getD_mem (by omega))
 have e1 : (i : Int).toNat = i := Int.toNat_natCast i
 have hbad : ∀ e : Int, i < l.length → e ≠ 0 → ratE l i = e → ratsE l = e := fun e h h1 h2 => by
  unfold ratsE; rw [if_neg (by omega)]
  exact firstAt_eq h p2 h1 h2
 conv => whnf
 repeat' (first | (refine CallX.exact (s108 _ (hx (by omega))) rfl rfl ?_; rotate_right; conv => whnf) | (refine br_intro ?_ ?_ <;> intro hb <;> (try simp only [brs] at hb) <;> conv => whnf) | (refine RegX.rule (id := 18) hT rfl [] oUTaA84_18 (by decide +kernel) ?_; conv => whnf) | omega | (refine And.intro ?_ ?_; ((try dsimp only); first | omega | (refine szA rfl ?_; omega) | (refine szB rfl ?_; omega) | (unfold inI64; omega) | exact rfl | (simp only [List.toList_toArray, List.length_cons, List.length_nil]; omega) | (simp only [lns] at *; omega) | decide | (unfold inI64; decide)); conv => whnf) | decide | assumption)
 · refine .ret _ ?_
   conv => whnf
   refine ⟨[], ⟨?_, rfl⟩, trivial⟩
   conv => lhs; whnf
   congr 2
   exact (hbad _ (by omega) (by decide) (by clear p2 hbad hk hx; simp only [e1] at *; unfold ratE; grind)).symm
 · refine .ret _ ?_
   conv => whnf
   refine ⟨[], ⟨?_, rfl⟩, trivial⟩
   conv => lhs; whnf
   congr 2
   exact (hbad _ (by omega) (by decide) (by clear p2 hbad hk hx; simp only [e1] at *; unfold ratE; grind)).symm
 · refine .ret _ ?_
   conv => whnf
   refine ⟨[], ⟨?_, rfl⟩, trivial⟩
   conv => lhs; whnf
   congr 2
   exact (hbad _ (by omega) (by decide) (by clear p2 hbad hk hx; simp only [e1] at *; unfold ratE; grind)).symm
 · refine .ret _ ?_
   conv => whnf
   refine ⟨[], ⟨?_, rfl⟩, trivial⟩
   conv => lhs; whnf
   congr 2
   exact (hbad _ (by omega) (by decide) (by clear p2 hbad hk hx; simp only [e1] at *; unfold ratE; grind)).symm
 · have hi : i < l.length := by omega
   have hN : isKeyB (l.getD i rat0).cls = true ∧ 0 ≤ (l.getD i rat0).frm ∧ (l.getD i rat0).frm < (l.getD i rat0).to ∧ (l.getD i rat0).to ≤ 4001 := by clear p2 hbad hk hx; simp only [e1] at *; grind
   have hR : ratE l i = if ¬ nums (l.getD i rat0) then 1 else if 0 < i ∧ (Op.bytesLess (l.getD i rat0).cls (l.getD (i - 1) rat0).cls = true ∨ ((l.getD (i - 1) rat0).cls = (l.getD i rat0).cls ∧ (l.getD i rat0).frm ≤ (l.getD (i - 1) rat0).frm)) then 7 else if 0 < i ∧ (l.getD (i - 1) rat0).cls = (l.getD i rat0).cls ∧ (l.getD i rat0).frm < (l.getD (i - 1) rat0).to then 13 else 0 := by
    obtain ⟨n1, n2, n3, n4⟩ := hN
    unfold ratE
    simp only
    rw [if_neg (by rw [n1]; simp)]
    by_cases hn : nums (l.getD i rat0) <;> simp only [hn, n2, n3, n4, and_true, and_false, true_and, not_true_eq_false, not_false_eq_true, if_true, if_false]
   obtain ⟨X, hX⟩ : ∃ X, X = l.getD (i : Int).toNat rat0 := ⟨_, rfl⟩
   have hX2 : l.getD i rat0 = X := hX.symm
   rw [hX2] at hN hR
   refine LoopX.rule hT (C := []) (ι := Nat) (fun k => k ≤ 4 ∧ ∀ j, j < k → numO (([X.hr, X.dy, X.we, X.wk] : List Int).getD j 0)) (fun k => mkSt [(0, .d (rats l)), (3, .d (.int .i64 i)), (4, .ptr 4 0), (11, .d (rats l)), (12, .d (.int .i64 l.length)), (13, .d (.int .i64 i)), (47, .d (ints [X.hr, X.dy, X.we, X.wk])), (48, .d (.int .i64 4)), (49, .d (.int .i64 k))] [(4, .cells 130 ((ratF X).map .d))]) (fun k => 4 - k) 0 ⟨by omega, by omega⟩ (by subst hX; exact (by (refine Entails.mk' [(4, 4)] rfl rfl ?_ ?_ <;> repeat' (first | exact True.intro | exact lr | exact rr | (exact SV.le_lit rfl rfl) | exact SV.le_int (by omega) | exact SV.le_any _ | refine And.intro ?_ ?_)); done)) ?_
   rintro k ⟨q1, q2⟩
   have e2 : (k : Int).toNat = k := Int.toNat_natCast k
   clear hx hk
   conv => whnf
   repeat' (first | (refine CallX.exact (s119 _ _ _) rfl rfl ?_; rotate_right; conv => whnf) | (refine CallX.exact (s184 _ _) rfl rfl ?_; rotate_right; conv => whnf) | (refine CallX.exact (s183 _ _) rfl rfl ?_; rotate_right; conv => whnf) | (refine CallX.pure (s182 [_, _] (by simp)) ⟨SV.le_lit (by rfl) (by rfl), trivial⟩ rfl ?_; conv => whnf) | (refine br_intro ?_ ?_ <;> intro hb <;> (try simp only [brs] at hb) <;> conv => whnf) | (refine RegX.rule (id := 18) hT rfl [] oUTaA84_18 (by decide +kernel) ?_; conv => whnf) | omega | (refine And.intro ?_ ?_; ((try dsimp only); first | omega | (refine szA rfl ?_; omega) | (refine szB rfl ?_; omega) | (unfold inI64; omega) | exact rfl | (simp only [List.toList_toArray, List.length_cons, List.length_nil]; omega) | (simp only [lns] at *; omega) | decide | (unfold inI64; decide)); conv => whnf) | decide | assumption)
   · refine .ret _ ?_
     conv => whnf
     refine ⟨[], ⟨?_, rfl⟩, trivial⟩
     conv => lhs; whnf
     congr 2
     refine (hbad _ hi (by decide) ?_).symm
     rw [hR, if_pos]
     rintro ⟨⟨n1, n2⟩, ⟨n3, n4⟩, ⟨n5, n6⟩, n7, n8⟩
     have hk4 : k = 0 ∨ k = 1 ∨ k = 2 ∨ k = 3 := by omega
     rcases hk4 with rfl | rfl | rfl | rfl <;> (simp only [Int.toNat_natCast, List.getD_cons_zero, List.getD_cons_succ] at hb; omega)
   · exact ⟨k + 1, ⟨by omega, all_step q2 hb⟩, by omega, (by (refine Entails.mk' [(4, 4)] rfl rfl ?_ ?_ <;> repeat' (first | exact True.intro | exact lr | exact rr | exact SV.le_int (by omega) | exact SV.le_any _ | refine And.intro ?_ ?_)); done)⟩
   all_goals
    have hk4 : k = 4 := by omega
    subst hk4
    have hn : nums X := ⟨q2 0 (by omega), q2 1 (by omega), q2 2 (by omega), q2 3 (by omega)⟩
    rw [if_neg (fun h => h hn)] at hR
    clear q1 q2 e2 hN
    first
     | (refine ⟨i + 1, ⟨by omega, first_step p2 (by rw [hR]; clear p2 hbad hR hX hX2; simp only [e1, toNat_pred] at *; (try simp only [cmp2_ge, cmp2_lt] at *); grind)⟩, by omega, (by (refine Entails.mk' [] rfl rfl ?_ ?_ <;> repeat' (first | exact True.intro | exact lr | exact rr | exact SV.le_int (by omega) | exact SV.le_any _ | refine And.intro ?_ ?_)); done)⟩)
     | (refine .ret _ ?_
        conv => whnf
        refine ⟨[], ⟨?_, rfl⟩, trivial⟩
        conv => lhs; whnf
        congr 2
        exact (hbad _ hi (by decide) (by rw [hR]; clear p2 hbad hR hX hX2; simp only [e1, toNat_pred] at *; (try simp only [cmp2_ge, cmp2_lt] at *); grind)).symm)
 · refine .ret _ ?_
   conv => whnf
   refine ⟨[], ⟨?_, rfl⟩, trivial⟩
   conv => lhs; whnf
   congr 2
   have : i = l.length := by omega
   subst this
   unfold ratsE; rw [if_neg (by omega), firstAt_zero p2]
set_option maxHeartbeats 4000000 in
theorem y161 (l : List Rat) (hk : ratOk l) : FSpec Tryz.prog 97 [.d (rats l)] [] (fun x r => x = .d (.int .i64 (ratsE l)) ∧ r = []) := by
 refine spec_of hT (C := []) Tryz.func97 rfl Tryz.call97 rfl rfl rfl ?_
 conv => whnf
 refine br_intro (fun h0 => ?_) (fun h0 => ?_)
 · simp at h0
   conv => whnf
   refine .ret _ ?_
   conv => whnf
   refine ⟨[], ⟨?_, rfl⟩, trivial⟩
   conv => lhs; whnf
   unfold ratsE; rw [if_pos (by omega)]
 simp at h0
 conv => whnf
 refine LoopX.rule hT (C := []) (ι := Nat) (fun i => i ≤ l.length ∧ ∀ j, j < i → ratE l j = 0) (fun i => mkSt [(0, .d (rats l)), (11, .d (rats l)), (12, .d (.int .i64 l.length)), (13, .d (.int .i64 i))] []) (fun i => l.length - i) 0 ⟨by omega, by omega⟩ (by (refine Entails.mk' [] rfl rfl ?_ ?_ <;> repeat' (first | exact True.intro | exact lr | exact rr | exact SV.le_int (by omega) | exact SV.le_any _ | refine And.intro ?_ ?_)); done) ?_
 rintro i ⟨p1, p2⟩
 have hx : (i : Int) < l.length → ratK (l.getD (i : Int).toNat rat0) := fun hi => hk.2 _ (getD_mem (by omega))
 have e1 : (i : Int).toNat = i := Int.toNat_natCast i
 have hbad : ∀ e : Int, i < l.length → e ≠ 0 → ratE l i = e → ratsE l = e := fun e h h1 h2 => by
  unfold ratsE; rw [if_neg (by omega)]
  exact firstAt_eq h p2 h1 h2
 conv => whnf
 repeat' (first | (refine CallX.exact (s21 _ (hx (by omega))) rfl rfl ?_; rotate_right; conv => whnf) | (refine br_intro ?_ ?_ <;> intro hb <;> (try simp only [brs] at hb) <;> conv => whnf) | (refine RegX.rule (id := 6) hT rfl [] oUTaA97_6 (by decide +kernel) ?_; conv => whnf) | omega | (refine And.intro ?_ ?_; ((try dsimp only); first | omega | (refine szA rfl ?_; omega) | (refine szB rfl ?_; omega) | (unfold inI64; omega) | exact rfl | (simp only [List.toList_toArray, List.length_cons, List.length_nil]; omega) | (simp only [lns] at *; omega) | decide | (unfold inI64; decide)); conv => whnf) | decide | assumption)
 all_goals first
  | (refine ⟨i + 1, ⟨by omega, first_step p2 (by clear p2 hbad hk hx; simp only [e1, toNat_pred] at *; unfold ratE nums numO; (try simp only [min4_lt, max4_gt] at *); grind)⟩, by omega, (by (refine Entails.mk' [] rfl rfl ?_ ?_ <;> repeat' (first | exact True.intro | exact lr | exact rr | exact SV.le_int (by omega) | exact SV.le_any _ | refine And.intro ?_ ?_)); done)⟩)
  | (refine .ret _ ?_
     conv => whnf
     refine ⟨[], ⟨?_, rfl⟩, trivial⟩
     conv => lhs; whnf
     congr 2
     first
      | exact (hbad _ (by omega) (by decide) (by clear p2 hbad hk hx; simp only [e1, toNat_pred] at *; unfold ratE nums numO; (try simp only [min4_lt, max4_gt] at *); grind)).symm
      | (have : i = l.length := by omega
         subst this
         unfold ratsE; rw [if_neg (by omega), firstAt_zero p2]))
def oUTaB85_8 : List (Nat × List Nat) := [(0, []), (1, []), (2, []), (3, []), (4, []), (5, [3, 4]), (6, [3, 4, 5]), (7, [3, 4, 5]), (8, [3, 4]), (9, [3, 4]), (10, [3, 4]), (11, []), (12, []), (13, [])]
def oUTaB86_10 : List (Nat × List Nat) := [(0, []), (1, []), (2, []), (3, []), (4, [3]), (5, [3]), (6, []), (7, []), (8, []), (9, [3, 4, 5, 6, 7, 8]), (10, [3, 4, 5, 6, 7, 8]), (12, [3, 4, 5, 6, 7, 8, 9, 10]), (13, [3, 4, 5, 6, 7, 8, 9, 10, 12]), (14, [3, 4, 5, 6, 7, 8, 9, 10, 12]), (15, [3, 4, 5, 6, 7, 8, 9, 10]), (16, [3, 4, 5, 6, 7, 8, 9, 10]), (17, [3, 4, 5, 6, 7, 8, 9, 10]), (18, [3, 4, 5, 6, 7, 8, 9, 10, 12, 13, 14, 15, 16, 17]), (19, [3, 4, 5, 6, 7, 8, 9, 10, 12, 13, 14, 15, 16, 17]), (11, [12, 13, 14, 15, 16, 17, 18, 19]), (20, []), (21, []), (22, []), (23, []), (24, []), (25, [])]
def oUTaB99_10 : List (Nat × List Nat) := [(0, []), (1, []), (2, []), (3, []), (4, []), (5, [3, 4]), (6, [3, 4, 5]), (7, [3, 4, 5]), (8, [3, 4]), (9, [3, 4]), (10, [3, 4]), (11, []), (12, []), (13, []), (14, []), (15, [13, 14]), (16, [13, 14, 15]), (17, [13, 14, 15]), (18, [13, 14]), (19, [13, 14]), (20, [13, 14]), (21, []), (22, []), (23, []), (24, []), (25, [23, 24]), (26, [23, 24, 25]), (27, [23, 24, 25]), (28, [23, 24]), (29, [23, 24]), (30, [23, 24]), (31, []), (32, []), (33, []), (34, []), (35, [])]
def oUTaB87_8 : List (Nat × List Nat) := [(0, []), (1, []), (2, []), (3, []), (4, []), (5, [3, 4]), (6, [3, 4, 5]), (7, [3, 4, 5]), (8, [3, 4]), (9, [3, 4]), (10, [3, 4]), (11, []), (12, []), (13, [])]
structure Ext where
 key : List UInt8
 once : Int
 dy : Int
 most : Int
def extF (x : Ext) : List DV := [.str x.key, .int .i64 x.once, .int .i64 x.dy, .int .i64 x.most]
def ext0 : Ext := ⟨[], 0, 0, 0⟩
abbrev exts (l : List Ext) : DV := seqD 4 extF ext0 l
def extE (l : List Ext) (i : Nat) : Int :=
 let x := l.getD i ext0
 if isKeyB x.key = false then 5 else if 0 < i ∧ strLe x.key (l.getD (i - 1) ext0).key = true then 7 else if ¬ ((0 ≤ x.once ∧ x.once ≤ 1000000) ∧ (0 ≤ x.dy ∧ x.dy ≤ 1000000) ∧ (-1 ≤ x.most ∧ x.most ≤ 1000000)) then 1 else 0
def extsE (l : List Ext) : Int := if 30 < l.length then 2 else firstAt (extE l) l.length
def extK (x : Ext) : Prop := x.key.length ≤ 2^40
def extOk (l : List Ext) : Prop := l.length ≤ 2^40 ∧ ∀ x ∈ l, extK x
set_option maxHeartbeats 2000000 in
theorem y150 (l : List Ext) (hk : extOk l) : FSpec Tryz.prog 85 [.d (exts l)] [] (fun x r => x = .d (.int .i64 (extsE l)) ∧ r = []) := by
 refine spec_of hT (C := []) Tryz.func85 rfl Tryz.call85 rfl rfl rfl ?_
 conv => whnf
 refine br_intro (fun h0 => ?_) (fun h0 => ?_)
 · simp at h0
   conv => whnf
   refine .ret _ ?_
   conv => whnf
   refine ⟨[], ⟨?_, rfl⟩, trivial⟩
   conv => lhs; whnf
   unfold extsE; rw [if_pos (by omega)]
 simp at h0
 conv => whnf
 refine LoopX.rule hT (C := []) (ι := Nat) (fun i => i ≤ l.length ∧ ∀ j, j < i → extE l j = 0) (fun i => mkSt [(0, .d (exts l)), (8, .d (exts l)), (9, .d (.int .i64 l.length)), (10, .d (.int .i64 i))] []) (fun i => l.length - i) 0 ⟨by omega, by omega⟩ (by (refine Entails.mk' [] rfl rfl ?_ ?_ <;> repeat' (first | exact True.intro | exact lr | exact rr | exact SV.le_int (by omega) | exact SV.le_any _ | refine And.intro ?_ ?_)); done) ?_
 rintro i ⟨p1, p2⟩
 have hx : (i : Int) < l.length → extK (l.getD (i : Int).toNat ext0) := fun hi => hk.2 _ (getD_mem (by omega))
 have e1 : (i : Int).toNat = i := Int.toNat_natCast i
 have hbad : ∀ e : Int, i < l.length → e ≠ 0 → extE l i = e → extsE l = e := fun e h h1 h2 => by
  unfold extsE; rw [if_neg (by omega)]
  exact firstAt_eq h p2 h1 h2
 conv => whnf
 repeat' (first | (refine CallX.exact (s108 _ (hx (by omega))) rfl rfl ?_; rotate_right; conv => whnf) | (refine CallX.exact (s119 _ _ _) rfl rfl ?_; rotate_right; conv => whnf) | (refine br_intro ?_ ?_ <;> intro hb <;> (try simp only [brs] at hb) <;> conv => whnf) | (refine RegX.rule (id := 8) hT rfl [] oUTaB85_8 (by decide +kernel) ?_; conv => whnf) | omega | (refine And.intro ?_ ?_; ((try dsimp only); first | omega | (refine szA rfl ?_; omega) | (refine szB rfl ?_; omega) | (unfold inI64; omega) | exact rfl | (simp only [List.toList_toArray, List.length_cons, List.length_nil]; omega) | (simp only [lns] at *; omega) | decide | (unfold inI64; decide)); conv => whnf) | decide | assumption)
 all_goals first
  | (refine ⟨i + 1, ⟨by omega, first_step p2 (by clear p2 hbad hk hx; simp only [e1, toNat_pred] at *; unfold extE strLe; grind)⟩, by omega, (by (refine Entails.mk' [] rfl rfl ?_ ?_ <;> repeat' (first | exact True.intro | exact lr | exact rr | exact SV.le_int (by omega) | exact SV.le_any _ | refine And.intro ?_ ?_)); done)⟩)
  | (refine .ret _ ?_
     conv => whnf
     refine ⟨[], ⟨?_, rfl⟩, trivial⟩
     conv => lhs; whnf
     congr 2
     first
      | exact (hbad _ (by omega) (by decide) (by clear p2 hbad hk hx; simp only [e1, toNat_pred] at *; unfold extE strLe; grind)).symm
      | (have : i = l.length := by omega
         subst this
         unfold extsE; rw [if_neg (by omega), firstAt_zero p2]))
set_option maxHeartbeats 2000000 in
theorem y162 (l : List Ext) (hk : extOk l) : FSpec Tryz.prog 98 [.d (exts l)] [] (fun x r => x = .d (.int .i64 (extsE l)) ∧ r = []) := by
 refine spec_of hT (C := []) Tryz.func98 rfl Tryz.call98 rfl rfl rfl ?_
 conv => whnf
 refine br_intro (fun h0 => ?_) (fun h0 => ?_)
 · simp at h0
   conv => whnf
   refine .ret _ ?_
   conv => whnf
   refine ⟨[], ⟨?_, rfl⟩, trivial⟩
   conv => lhs; whnf
   unfold extsE; rw [if_pos (by omega)]
 simp at h0
 conv => whnf
 refine LoopX.rule hT (C := []) (ι := Nat) (fun i => i ≤ l.length ∧ ∀ j, j < i → extE l j = 0) (fun i => mkSt [(3, .d (.str (if i = 0 then [] else (l.getD (i - 1) ext0).key))), (9, .d (exts l)), (10, .d (.int .i64 l.length)), (11, .d (.int .i64 i))] []) (fun i => l.length - i) 0 ⟨by omega, by omega⟩ (by (refine Entails.mk' [] rfl rfl ?_ ?_ <;> repeat' (first | exact True.intro | exact lr | exact rr | exact SV.le_int (by omega) | exact SV.le_any _ | refine And.intro ?_ ?_)); done) ?_
 rintro i ⟨p1, p2⟩
 have hx : (i : Int) < l.length → extK (l.getD (i : Int).toNat ext0) := fun hi => hk.2 _ (getD_mem (by omega))
 have e1 : (i : Int).toNat = i := Int.toNat_natCast i
 have hbad : ∀ e : Int, i < l.length → e ≠ 0 → extE l i = e → extsE l = e := fun e h h1 h2 => by
  unfold extsE; rw [if_neg (by omega)]
  exact firstAt_eq h p2 h1 h2
 conv => whnf
 repeat' (first | (refine CallX.exact (s21 _ (hx (by omega))) rfl rfl ?_; rotate_right; conv => whnf) | (refine CallX.exact (s110 _ _ _) rfl rfl ?_; rotate_right; conv => whnf) | (refine br_intro ?_ ?_ <;> intro hb <;> (try simp only [brs] at hb) <;> conv => whnf) | omega | (refine And.intro ?_ ?_; ((try dsimp only); first | omega | (refine szA rfl ?_; omega) | (refine szB rfl ?_; omega) | (unfold inI64; omega) | exact rfl | (simp only [List.toList_toArray, List.length_cons, List.length_nil]; omega) | (simp only [lns] at *; omega) | decide | (unfold inI64; decide)); conv => whnf) | decide | assumption)
 all_goals first
  | (refine ⟨i + 1, ⟨by omega, first_step p2 (by clear p2 hbad hk hx; simp only [e1] at *; unfold extE strLe; grind)⟩, by omega, Entails.mk' [] rfl rfl ⟨(by rw [show (if i + 1 = 0 then ([] : List UInt8) else (l.getD (i + 1 - 1) ext0).key) = (l.getD (i : Int).toNat ext0).key from by rw [if_neg (by omega), e1, Nat.add_sub_cancel]]; exact lr), lr, lr, lr, trivial⟩ trivial⟩)
  | (refine .ret _ ?_
     conv => whnf
     refine ⟨[], ⟨?_, rfl⟩, trivial⟩
     conv => lhs; whnf
     congr 2
     first
      | exact (hbad _ (by omega) (by decide) (by clear p2 hbad hk hx; simp only [e1] at *; unfold extE strLe; grind [isKey_nil, less_nil])).symm
      | (have : i = l.length := by omega
         subst this
         unfold extsE; rw [if_neg (by omega), firstAt_zero p2]))
structure Fe where
 a : List UInt8
 b : List UInt8
 cents : Int
def feF (x : Fe) : List DV := [.str x.a, .str x.b, .int .i64 x.cents]
def fe0 : Fe := ⟨[], [], 0⟩
abbrev fes (l : List Fe) : DV := seqD 3 feF fe0 l
def feE (l : List Fe) (i : Nat) : Int :=
 let x := l.getD i fe0
 let q := l.getD (i - 1) fe0
 if isKeyB x.a = false ∨ isKeyB x.b = false then 5 else if x.a = x.b then 14 else if 0 < i ∧ (Op.bytesLess x.a q.a = true ∨ (q.a = x.a ∧ strLe x.b q.b = true)) then 7 else if ¬ (0 ≤ x.cents ∧ x.cents ≤ 1000000) then 1 else 0
def fesE (l : List Fe) : Int := if 500 < l.length then 2 else firstAt (feE l) l.length
def feK (x : Fe) : Prop := x.a.length ≤ 2^40 ∧ x.b.length ≤ 2^40
def feOk (l : List Fe) : Prop := l.length ≤ 2^40 ∧ ∀ x ∈ l, feK x
set_option maxHeartbeats 2000000 in
theorem y151 (l : List Fe) (hk : feOk l) : FSpec Tryz.prog 86 [.d (fes l)] [] (fun x r => x = .d (.int .i64 (fesE l)) ∧ r = []) := by
 refine spec_of hT (C := []) Tryz.func86 rfl Tryz.call86 rfl rfl rfl ?_
 conv => whnf
 refine br_intro (fun h0 => ?_) (fun h0 => ?_)
 · simp at h0
   conv => whnf
   refine .ret _ ?_
   conv => whnf
   refine ⟨[], ⟨?_, rfl⟩, trivial⟩
   conv => lhs; whnf
   unfold fesE; rw [if_pos (by omega)]
 simp at h0
 conv => whnf
 refine LoopX.rule hT (C := []) (ι := Nat) (fun i => i ≤ l.length ∧ ∀ j, j < i → feE l j = 0) (fun i => mkSt [(0, .d (fes l)), (8, .d (fes l)), (9, .d (.int .i64 l.length)), (10, .d (.int .i64 i))] []) (fun i => l.length - i) 0 ⟨by omega, by omega⟩ (by (refine Entails.mk' [] rfl rfl ?_ ?_ <;> repeat' (first | exact True.intro | exact lr | exact rr | exact SV.le_int (by omega) | exact SV.le_any _ | refine And.intro ?_ ?_)); done) ?_
 rintro i ⟨p1, p2⟩
 have hx : (i : Int) < l.length → feK (l.getD (i : Int).toNat fe0) := fun hi => hk.2 _ (getD_mem (by omega))
 have e1 : (i : Int).toNat = i := Int.toNat_natCast i
 have hbad : ∀ e : Int, i < l.length → e ≠ 0 → feE l i = e → fesE l = e := fun e h h1 h2 => by
  unfold fesE; rw [if_neg (by omega)]
  exact firstAt_eq h p2 h1 h2
 conv => whnf
 repeat' (first | (refine CallX.exact (s108 _ (hx (by omega)).1) rfl rfl ?_; rotate_right; conv => whnf) | (refine CallX.exact (s108 _ (hx (by omega)).2) rfl rfl ?_; rotate_right; conv => whnf) | (refine CallX.exact (s119 _ _ _) rfl rfl ?_; rotate_right; conv => whnf) | (refine CallX.exact (s184 _ _) rfl rfl ?_; rotate_right; conv => whnf) | (refine CallX.pure (s182 [_, _] (by simp)) ⟨SV.le_lit (by rfl) (by rfl), trivial⟩ rfl ?_; conv => whnf) | (refine br_intro ?_ ?_ <;> intro hb <;> (try simp only [brs] at hb) <;> conv => whnf) | (refine RegX.rule (id := 10) hT rfl [] oUTaB86_10 (by decide +kernel) ?_; conv => whnf) | omega | (refine And.intro ?_ ?_; ((try dsimp only); first | omega | (refine szA rfl ?_; omega) | (refine szB rfl ?_; omega) | (unfold inI64; omega) | exact rfl | (simp only [List.toList_toArray, List.length_cons, List.length_nil]; omega) | (simp only [lns] at *; omega) | decide | (unfold inI64; decide)); conv => whnf) | decide | assumption)
 all_goals first
  | (refine ⟨i + 1, ⟨by omega, first_step p2 (by clear p2 hbad hk hx; simp only [e1, toNat_pred] at *; unfold feE ; (try simp only [cmp2s_ge, cmp2s_lt] at *); grind)⟩, by omega, (by (refine Entails.mk' [] rfl rfl ?_ ?_ <;> repeat' (first | exact True.intro | exact lr | exact rr | exact SV.le_int (by omega) | exact SV.le_any _ | refine And.intro ?_ ?_)); done)⟩)
  | (refine .ret _ ?_
     conv => whnf
     refine ⟨[], ⟨?_, rfl⟩, trivial⟩
     conv => lhs; whnf
     congr 2
     first
      | exact (hbad _ (by omega) (by decide) (by clear p2 hbad hk hx; simp only [e1, toNat_pred] at *; unfold feE ; (try simp only [cmp2s_ge, cmp2s_lt] at *); grind)).symm
      | (have : i = l.length := by omega
         subst this
         unfold fesE; rw [if_neg (by omega), firstAt_zero p2]))
set_option maxHeartbeats 2000000 in
theorem y163 (l : List Fe) (hk : feOk l) : FSpec Tryz.prog 99 [.d (fes l)] [] (fun x r => x = .d (.int .i64 (fesE l)) ∧ r = []) := by
 refine spec_of hT (C := []) Tryz.func99 rfl Tryz.call99 rfl rfl rfl ?_
 conv => whnf
 refine br_intro (fun h0 => ?_) (fun h0 => ?_)
 · simp at h0
   conv => whnf
   refine .ret _ ?_
   conv => whnf
   refine ⟨[], ⟨?_, rfl⟩, trivial⟩
   conv => lhs; whnf
   unfold fesE; rw [if_pos (by omega)]
 simp at h0
 conv => whnf
 refine LoopX.rule hT (C := []) (ι := Nat) (fun i => i ≤ l.length ∧ ∀ j, j < i → feE l j = 0) (fun i => mkSt [(0, .d (fes l)), (8, .d (fes l)), (9, .d (.int .i64 l.length)), (10, .d (.int .i64 i))] []) (fun i => l.length - i) 0 ⟨by omega, by omega⟩ (by (refine Entails.mk' [] rfl rfl ?_ ?_ <;> repeat' (first | exact True.intro | exact lr | exact rr | exact SV.le_int (by omega) | exact SV.le_any _ | refine And.intro ?_ ?_)); done) ?_
 rintro i ⟨p1, p2⟩
 have hx : (i : Int) < l.length → feK (l.getD (i : Int).toNat fe0) := fun hi => hk.2 _ (getD_mem (by omega))
 have e1 : (i : Int).toNat = i := Int.toNat_natCast i
 have hbad : ∀ e : Int, i < l.length → e ≠ 0 → feE l i = e → fesE l = e := fun e h h1 h2 => by
  unfold fesE; rw [if_neg (by omega)]
  exact firstAt_eq h p2 h1 h2
 conv => whnf
 repeat' (first | (refine CallX.exact (s21 _ (hx (by omega)).1) rfl rfl ?_; rotate_right; conv => whnf) | (refine CallX.exact (s21 _ (hx (by omega)).2) rfl rfl ?_; rotate_right; conv => whnf) | (refine CallX.exact (s110 _ _ _) rfl rfl ?_; rotate_right; conv => whnf) | (refine br_intro ?_ ?_ <;> intro hb <;> (try simp only [brs] at hb) <;> conv => whnf) | (refine RegX.rule (id := 10) hT rfl [] oUTaB99_10 (by decide +kernel) ?_; conv => whnf) | omega | (refine And.intro ?_ ?_; ((try dsimp only); first | omega | (refine szA rfl ?_; omega) | (refine szB rfl ?_; omega) | (unfold inI64; omega) | exact rfl | (simp only [List.toList_toArray, List.length_cons, List.length_nil]; omega) | (simp only [lns] at *; omega) | decide | (unfold inI64; decide)); conv => whnf) | decide | assumption)
 all_goals first
  | (refine ⟨i + 1, ⟨by omega, first_step p2 (by clear p2 hbad hk hx; simp only [e1, toNat_pred] at *; unfold feE strLe; grind)⟩, by omega, (by (refine Entails.mk' [] rfl rfl ?_ ?_ <;> repeat' (first | exact True.intro | exact lr | exact rr | exact SV.le_int (by omega) | exact SV.le_any _ | refine And.intro ?_ ?_)); done)⟩)
  | (refine .ret _ ?_
     conv => whnf
     refine ⟨[], ⟨?_, rfl⟩, trivial⟩
     conv => lhs; whnf
     congr 2
     first
      | exact (hbad _ (by omega) (by decide) (by clear p2 hbad hk hx; simp only [e1, toNat_pred] at *; unfold feE strLe; grind)).symm
      | (have : i = l.length := by omega
         subst this
         unfold fesE; rw [if_neg (by omega), firstAt_zero p2]))
structure Cod where
 key : List UInt8
 cls : List UInt8
 frm : Int
 to : Int
 days : Int
 per : Int
def codF (x : Cod) : List DV := [.str x.key, .str x.cls, .int .i64 x.frm, .int .i64 x.to, .int .i64 x.days, .int .i64 x.per]
def cod0 : Cod := ⟨[], [], 0, 0, 0, 0⟩
abbrev cods (l : List Cod) : DV := seqD 6 codF cod0 l
def codE (l : List Cod) (i : Nat) : Int :=
 let x := l.getD i cod0
 if isKeyB x.key = false then 5 else if 0 < i ∧ strLe x.key (l.getD (i - 1) cod0).key = true then 7 else if x.cls ≠ [] ∧ isKeyB x.cls = false then 5 else if ¬ ((0 ≤ x.frm ∧ x.frm ≤ x.to) ∧ x.to ≤ 4001 ∧ (1 ≤ x.days ∧ x.days ≤ 120) ∧ (1 ≤ x.per ∧ x.per ≤ 1000)) then 1 else 0
def codsE (l : List Cod) : Int := if 50 < l.length then 2 else firstAt (codE l) l.length
def codK (x : Cod) : Prop := x.key.length ≤ 2^40 ∧ x.cls.length ≤ 2^40
def codOk (l : List Cod) : Prop := l.length ≤ 2^40 ∧ ∀ x ∈ l, codK x
set_option maxHeartbeats 2000000 in
theorem y152 (l : List Cod) (hk : codOk l) : FSpec Tryz.prog 87 [.d (cods l)] [] (fun x r => x = .d (.int .i64 (codsE l)) ∧ r = []) := by
 refine spec_of hT (C := []) Tryz.func87 rfl Tryz.call87 rfl rfl rfl ?_
 conv => whnf
 refine br_intro (fun h0 => ?_) (fun h0 => ?_)
 · simp at h0
   conv => whnf
   refine .ret _ ?_
   conv => whnf
   refine ⟨[], ⟨?_, rfl⟩, trivial⟩
   conv => lhs; whnf
   unfold codsE; rw [if_pos (by omega)]
 simp at h0
 conv => whnf
 refine LoopX.rule hT (C := []) (ι := Nat) (fun i => i ≤ l.length ∧ ∀ j, j < i → codE l j = 0) (fun i => mkSt [(0, .d (cods l)), (8, .d (cods l)), (9, .d (.int .i64 l.length)), (10, .d (.int .i64 i))] []) (fun i => l.length - i) 0 ⟨by omega, by omega⟩ (by (refine Entails.mk' [] rfl rfl ?_ ?_ <;> repeat' (first | exact True.intro | exact lr | exact rr | exact SV.le_int (by omega) | exact SV.le_any _ | refine And.intro ?_ ?_)); done) ?_
 rintro i ⟨p1, p2⟩
 have hx : (i : Int) < l.length → codK (l.getD (i : Int).toNat cod0) := fun hi => hk.2 _ (getD_mem (by omega))
 have e1 : (i : Int).toNat = i := Int.toNat_natCast i
 have hbad : ∀ e : Int, i < l.length → e ≠ 0 → codE l i = e → codsE l = e := fun e h h1 h2 => by
  unfold codsE; rw [if_neg (by omega)]
  exact firstAt_eq h p2 h1 h2
 conv => whnf
 repeat' (first | (refine CallX.exact (s108 _ (hx (by omega)).1) rfl rfl ?_; rotate_right; conv => whnf) | (refine CallX.exact (s108 _ (hx (by omega)).2) rfl rfl ?_; rotate_right; conv => whnf) | (refine CallX.exact (s119 _ _ _) rfl rfl ?_; rotate_right; conv => whnf) | (refine br_intro ?_ ?_ <;> intro hb <;> (try simp only [brs] at hb) <;> conv => whnf) | (refine RegX.rule (id := 8) hT rfl [] oUTaB87_8 (by decide +kernel) ?_; conv => whnf) | omega | (refine And.intro ?_ ?_; ((try dsimp only); first | omega | (refine szA rfl ?_; omega) | (refine szB rfl ?_; omega) | (unfold inI64; omega) | exact rfl | (simp only [List.toList_toArray, List.length_cons, List.length_nil]; omega) | (simp only [lns] at *; omega) | decide | (unfold inI64; decide)); conv => whnf) | decide | assumption)
 all_goals first
  | (refine ⟨i + 1, ⟨by omega, first_step p2 (by clear p2 hbad hk hx; simp only [e1, toNat_pred] at *; unfold codE strLe; grind)⟩, by omega, (by (refine Entails.mk' [] rfl rfl ?_ ?_ <;> repeat' (first | exact True.intro | exact lr | exact rr | exact SV.le_int (by omega) | exact SV.le_any _ | refine And.intro ?_ ?_)); done)⟩)
  | (refine .ret _ ?_
     conv => whnf
     refine ⟨[], ⟨?_, rfl⟩, trivial⟩
     conv => lhs; whnf
     congr 2
     first
      | exact (hbad _ (by omega) (by decide) (by clear p2 hbad hk hx; simp only [e1, toNat_pred] at *; unfold codE strLe; grind)).symm
      | (have : i = l.length := by omega
         subst this
         unfold codsE; rw [if_neg (by omega), firstAt_zero p2]))
set_option maxHeartbeats 2000000 in
theorem y164 (l : List Cod) (hk : codOk l) : FSpec Tryz.prog 100 [.d (cods l)] [] (fun x r => x = .d (.int .i64 (codsE l)) ∧ r = []) := by
 refine spec_of hT (C := []) Tryz.func100 rfl Tryz.call100 rfl rfl rfl ?_
 conv => whnf
 refine br_intro (fun h0 => ?_) (fun h0 => ?_)
 · simp at h0
   conv => whnf
   refine .ret _ ?_
   conv => whnf
   refine ⟨[], ⟨?_, rfl⟩, trivial⟩
   conv => lhs; whnf
   unfold codsE; rw [if_pos (by omega)]
 simp at h0
 conv => whnf
 refine LoopX.rule hT (C := []) (ι := Nat) (fun i => i ≤ l.length ∧ ∀ j, j < i → codE l j = 0) (fun i => mkSt [(3, .d (.str (if i = 0 then [] else (l.getD (i - 1) cod0).key))), (9, .d (cods l)), (10, .d (.int .i64 l.length)), (11, .d (.int .i64 i))] []) (fun i => l.length - i) 0 ⟨by omega, by omega⟩ (by (refine Entails.mk' [] rfl rfl ?_ ?_ <;> repeat' (first | exact True.intro | exact lr | exact rr | exact SV.le_int (by omega) | exact SV.le_any _ | refine And.intro ?_ ?_)); done) ?_
 rintro i ⟨p1, p2⟩
 have hx : (i : Int) < l.length → codK (l.getD (i : Int).toNat cod0) := fun hi => hk.2 _ (getD_mem (by omega))
 have e1 : (i : Int).toNat = i := Int.toNat_natCast i
 have hbad : ∀ e : Int, i < l.length → e ≠ 0 → codE l i = e → codsE l = e := fun e h h1 h2 => by
  unfold codsE; rw [if_neg (by omega)]
  exact firstAt_eq h p2 h1 h2
 conv => whnf
 repeat' (first | (refine CallX.exact (s21 _ (hx (by omega)).1) rfl rfl ?_; rotate_right; conv => whnf) | (refine CallX.exact (s21 _ (hx (by omega)).2) rfl rfl ?_; rotate_right; conv => whnf) | (refine CallX.exact (s110 _ _ _) rfl rfl ?_; rotate_right; conv => whnf) | (refine br_intro ?_ ?_ <;> intro hb <;> (try simp only [brs] at hb) <;> conv => whnf) | omega | (refine And.intro ?_ ?_; ((try dsimp only); first | omega | (refine szA rfl ?_; omega) | (refine szB rfl ?_; omega) | (unfold inI64; omega) | exact rfl | (simp only [List.toList_toArray, List.length_cons, List.length_nil]; omega) | (simp only [lns] at *; omega) | decide | (unfold inI64; decide)); conv => whnf) | decide | assumption)
 all_goals first
  | (refine ⟨i + 1, ⟨by omega, first_step p2 (by clear p2 hbad hk hx; simp only [e1] at *; unfold codE strLe; grind)⟩, by omega, Entails.mk' [] rfl rfl ⟨(by rw [show (if i + 1 = 0 then ([] : List UInt8) else (l.getD (i + 1 - 1) cod0).key) = (l.getD (i : Int).toNat cod0).key from by rw [if_neg (by omega), e1, Nat.add_sub_cancel]]; exact lr), lr, lr, lr, trivial⟩ trivial⟩)
  | (refine .ret _ ?_
     conv => whnf
     refine ⟨[], ⟨?_, rfl⟩, trivial⟩
     conv => lhs; whnf
     congr 2
     first
      | exact (hbad _ (by omega) (by decide) (by clear p2 hbad hk hx; simp only [e1] at *; unfold codE strLe; grind [isKey_nil, less_nil])).symm
      | (have : i = l.length := by omega
         subst this
         unfold codsE; rw [if_neg (by omega), firstAt_zero p2]))
structure Tax where
 key : List UInt8
 per : Int
 on : List Int
 over : Bool
def taxF (x : Tax) : List DV := [.str x.key, .int .i64 x.per, ints x.on, .bool x.over]
def tax0 : Tax := ⟨[], 0, [], false⟩
abbrev taxs (l : List Tax) : DV := seqD 4 taxF tax0 l
def taxC (x : Tax) : Res := .cells 141 ((taxF x).map .d)
def txOn (l : List Int) (k : Nat) : Int := if l.getD k 0 = 5 ∨ ¬ (1 ≤ l.getD k 0 ∧ l.getD k 0 ≤ 6) then 4 else if 0 < k ∧ l.getD k 0 ≤ l.getD (k - 1) 0 then 7 else 0
def txOns (l : List Int) : Int := firstAt (txOn l) l.length
def dupT (l : List Tax) (x : Tax) : Bool := decide (0 ≤ ixF (fun i => (l.getD i tax0).key == x.key) l.length)
def taxE (l : List Tax) (i : Nat) : Int :=
 let x := l.getD i tax0
 if isKeyB x.key = false then 5 else if dupT (l.take i) x = true then 6 else if ¬ (0 ≤ x.per ∧ x.per ≤ 1000) then 1 else txOns x.on
def taxsE (l : List Tax) : Int := if 10 < l.length then 2 else firstAt (taxE l) l.length
def taxK (x : Tax) : Prop := x.key.length ≤ 2^40 ∧ x.on.length ≤ 2^40
def taxOk (l : List Tax) : Prop := l.length ≤ 2^40 ∧ ∀ x ∈ l, taxK x
theorem y229 (y x : Tax) : FSpec Tryz.prog 122 [.agg ((taxF y).map .d), .ptr 1000001 0] [(1000001, taxC x)] (fun v r => v = .d (.bool (y.key == x.key)) ∧ r = [(1000001, taxC x)]) := by
 refine spec_of hT (C := []) Tryz.func122 rfl Tryz.call122 rfl rfl rfl ?_
 conv => whnf
 refine .ret _ ?_
 conv => whnf
 exact ⟨[(1000001, taxC x)], ⟨rfl, rfl⟩, rr, trivial⟩
theorem y309a (l : List Tax) (hl : l.length ≤ 2^40) (x : Tax) : FSpec Tryz.prog 147 [.d (taxs l), .fn 122 [.ptr 1000001 0]] [(1000001, taxC x)] (fun v r => v = .d (.int .i64 (ixF (fun i => (l.getD i tax0).key == x.key) l.length)) ∧ r = [(1000001, taxC x)]) := by
 refine spec_of hT (C := []) Tryz.func147 rfl Tryz.call147 rfl rfl rfl ?_
 conv => whnf
 refine LoopX.rule hT (C := []) (ι := Nat) (fun i => i ≤ l.length ∧ ∀ j, j < i → ((l.getD j tax0).key == x.key) = false) (fun i => mkSt [(0, .d (taxs l)), (1, .fn 122 [.ptr 1000001 0]), (7, .d (.int .i64 l.length)), (8, .d (.int .i64 i))] [(1000001, taxC x)]) (fun i => l.length - i) 0 ⟨by omega, by omega⟩ (by (refine Entails.mk' [(1000001, 1000001)] rfl rfl ?_ ?_ <;> repeat' (first | exact True.intro | exact lr | exact rr | exact SV.le_int (by omega) | exact SV.le_any _ | refine And.intro ?_ ?_)); done) ?_
 rintro i ⟨p1, p2⟩
 have e1 : (i : Int).toNat = i := Int.toNat_natCast i
 conv => whnf
 repeat' (first | (refine CallX.of (y229 (l.getD (i : Int).toNat tax0) x) [(1000001, 1000001)] rfl ⟨lr, lr, trivial⟩ ⟨rr, trivial⟩ rfl rfl ?_; rintro v rout ⟨rfl, rfl⟩; refine ⟨rfl, ?_⟩; conv => whnf) | (refine br_intro ?_ ?_ <;> intro hb <;> (try simp only [brs] at hb) <;> conv => whnf) | omega | (refine And.intro ?_ ?_; ((try dsimp only); first | omega | (refine szA rfl ?_; omega) | (refine szB rfl ?_; omega) | (unfold inI64; omega) | exact rfl | (simp only [List.toList_toArray, List.length_cons, List.length_nil]; omega) | (simp only [lns] at *; omega) | decide | (unfold inI64; decide)); conv => whnf) | decide | assumption)
 · refine .ret _ ?_
   conv => whnf
   refine ⟨[(1000001, taxC x)], ⟨?_, rfl⟩, rr, trivial⟩
   conv => lhs; whnf
   congr 2
   exact (ixF_hit (by omega) p2 (by simpa using hb)).symm
 · exact ⟨i + 1, ⟨by omega, all_step p2 (by simpa using hb)⟩, by omega, (by (refine Entails.mk' [(1000001, 1000001)] rfl rfl ?_ ?_ <;> repeat' (first | exact True.intro | exact lr | exact rr | exact SV.le_int (by omega) | exact SV.le_any _ | refine And.intro ?_ ?_)); done)⟩
 · refine .ret _ ?_
   conv => whnf
   refine ⟨[(1000001, taxC x)], ⟨?_, rfl⟩, rr, trivial⟩
   conv => lhs; whnf
   congr 2
   have : i = l.length := by omega
   subst this
   exact (ixF_none p2).symm
theorem y309ac (l : List Tax) (hl : l.length ≤ 2^40) (x : Tax) : FSpec Tryz.prog 121 [.d (taxs l), .fn 122 [.ptr 1000001 0]] [(1000001, taxC x)] (fun v r => v = .d (.bool (dupT l x)) ∧ r = [(1000001, taxC x)]) := by
 refine spec_of hT (C := []) Tryz.func121 rfl Tryz.call121 rfl rfl rfl ?_
 conv => whnf
 repeat' (first | (refine CallX.of (y309a l hl x) [(1000001, 1000001)] rfl ⟨lr, lr, trivial⟩ ⟨rr, trivial⟩ rfl rfl ?_; rintro v rout ⟨rfl, rfl⟩; refine ⟨rfl, ?_⟩; conv => whnf) | (refine br_intro ?_ ?_ <;> intro hb <;> (try simp only [brs] at hb) <;> conv => whnf) | omega | (refine And.intro ?_ ?_; ((try dsimp only); first | omega | (refine szA rfl ?_; omega) | (refine szB rfl ?_; omega) | (unfold inI64; omega) | exact rfl | (simp only [List.toList_toArray, List.length_cons, List.length_nil]; omega) | (simp only [lns] at *; omega) | decide | (unfold inI64; decide)); conv => whnf) | decide | assumption)
 refine .ret _ ?_
 conv => whnf
 exact ⟨[(1000001, taxC x)], ⟨rfl, rfl⟩, rr, trivial⟩
theorem y235 (y x : Tax) : FSpec Tryz.prog 130 [.agg ((taxF y).map .d), .ptr 1000001 0] [(1000001, taxC x)] (fun v r => v = .d (.bool (y.key == x.key)) ∧ r = [(1000001, taxC x)]) := by
 refine spec_of hT (C := []) Tryz.func130 rfl Tryz.call130 rfl rfl rfl ?_
 conv => whnf
 refine .ret _ ?_
 conv => whnf
 exact ⟨[(1000001, taxC x)], ⟨rfl, rfl⟩, rr, trivial⟩
theorem y309b (l : List Tax) (hl : l.length ≤ 2^40) (x : Tax) : FSpec Tryz.prog 147 [.d (taxs l), .fn 130 [.ptr 1000001 0]] [(1000001, taxC x)] (fun v r => v = .d (.int .i64 (ixF (fun i => (l.getD i tax0).key == x.key) l.length)) ∧ r = [(1000001, taxC x)]) := by
 refine spec_of hT (C := []) Tryz.func147 rfl Tryz.call147 rfl rfl rfl ?_
 conv => whnf
 refine LoopX.rule hT (C := []) (ι := Nat) (fun i => i ≤ l.length ∧ ∀ j, j < i → ((l.getD j tax0).key == x.key) = false) (fun i => mkSt [(0, .d (taxs l)), (1, .fn 130 [.ptr 1000001 0]), (7, .d (.int .i64 l.length)), (8, .d (.int .i64 i))] [(1000001, taxC x)]) (fun i => l.length - i) 0 ⟨by omega, by omega⟩ (by (refine Entails.mk' [(1000001, 1000001)] rfl rfl ?_ ?_ <;> repeat' (first | exact True.intro | exact lr | exact rr | exact SV.le_int (by omega) | exact SV.le_any _ | refine And.intro ?_ ?_)); done) ?_
 rintro i ⟨p1, p2⟩
 have e1 : (i : Int).toNat = i := Int.toNat_natCast i
 conv => whnf
 repeat' (first | (refine CallX.of (y235 (l.getD (i : Int).toNat tax0) x) [(1000001, 1000001)] rfl ⟨lr, lr, trivial⟩ ⟨rr, trivial⟩ rfl rfl ?_; rintro v rout ⟨rfl, rfl⟩; refine ⟨rfl, ?_⟩; conv => whnf) | (refine br_intro ?_ ?_ <;> intro hb <;> (try simp only [brs] at hb) <;> conv => whnf) | omega | (refine And.intro ?_ ?_; ((try dsimp only); first | omega | (refine szA rfl ?_; omega) | (refine szB rfl ?_; omega) | (unfold inI64; omega) | exact rfl | (simp only [List.toList_toArray, List.length_cons, List.length_nil]; omega) | (simp only [lns] at *; omega) | decide | (unfold inI64; decide)); conv => whnf) | decide | assumption)
 · refine .ret _ ?_
   conv => whnf
   refine ⟨[(1000001, taxC x)], ⟨?_, rfl⟩, rr, trivial⟩
   conv => lhs; whnf
   congr 2
   exact (ixF_hit (by omega) p2 (by simpa using hb)).symm
 · exact ⟨i + 1, ⟨by omega, all_step p2 (by simpa using hb)⟩, by omega, (by (refine Entails.mk' [(1000001, 1000001)] rfl rfl ?_ ?_ <;> repeat' (first | exact True.intro | exact lr | exact rr | exact SV.le_int (by omega) | exact SV.le_any _ | refine And.intro ?_ ?_)); done)⟩
 · refine .ret _ ?_
   conv => whnf
   refine ⟨[(1000001, taxC x)], ⟨?_, rfl⟩, rr, trivial⟩
   conv => lhs; whnf
   congr 2
   have : i = l.length := by omega
   subst this
   exact (ixF_none p2).symm
theorem y309bc (l : List Tax) (hl : l.length ≤ 2^40) (x : Tax) : FSpec Tryz.prog 121 [.d (taxs l), .fn 130 [.ptr 1000001 0]] [(1000001, taxC x)] (fun v r => v = .d (.bool (dupT l x)) ∧ r = [(1000001, taxC x)]) := by
 refine spec_of hT (C := []) Tryz.func121 rfl Tryz.call121 rfl rfl rfl ?_
 conv => whnf
 repeat' (first | (refine CallX.of (y309b l hl x) [(1000001, 1000001)] rfl ⟨lr, lr, trivial⟩ ⟨rr, trivial⟩ rfl rfl ?_; rintro v rout ⟨rfl, rfl⟩; refine ⟨rfl, ?_⟩; conv => whnf) | (refine br_intro ?_ ?_ <;> intro hb <;> (try simp only [brs] at hb) <;> conv => whnf) | omega | (refine And.intro ?_ ?_; ((try dsimp only); first | omega | (refine szA rfl ?_; omega) | (refine szB rfl ?_; omega) | (unfold inI64; omega) | exact rfl | (simp only [List.toList_toArray, List.length_cons, List.length_nil]; omega) | (simp only [lns] at *; omega) | decide | (unfold inI64; decide)); conv => whnf) | decide | assumption)
 refine .ret _ ?_
 conv => whnf
 exact ⟨[(1000001, taxC x)], ⟨rfl, rfl⟩, rr, trivial⟩
theorem le_takeT {l : List Tax} {i : Nat} (h : i ≤ l.length) : SV.le (.d (.ro 4 i fun j => rowF taxF tax0 l (0 + j))) (.d (taxs (l.take i))) :=
 SV.le_ro (by rw [List.length_take]; omega) (fun j hj => by
  simp only [Nat.zero_add, rowF]
  rw [List.getD_eq_getElem?_getD, List.getD_eq_getElem?_getD, List.getElem?_take_of_lt hj])
theorem taxE_hit {l : List Tax} {i : Nat} {e : Int} (h0 : ¬ 10 < l.length) (h : i < l.length) (p : ∀ j, j < i → taxE l j = 0) (h1 : e ≠ 0) (h2 : taxE l i = e) : taxsE l = e := by
 unfold taxsE; rw [if_neg h0]
 exact firstAt_eq h p h1 h2
set_option maxHeartbeats 2000000 in
theorem y153 (l : List Tax) (hk : taxOk l) : FSpec Tryz.prog 88 [.d (taxs l)] [] (fun x r => x = .d (.int .i64 (taxsE l)) ∧ r = []) := by
 refine spec_of hT (C := []) Tryz.func88 rfl Tryz.call88 rfl rfl rfl ?_
 conv => whnf
 refine br_intro (fun h0 => ?_) (fun h0 => ?_)
 · simp at h0
   conv => whnf
   refine .ret _ ?_
   conv => whnf
   refine ⟨[], ⟨?_, rfl⟩, trivial⟩
   conv => lhs; whnf
   unfold taxsE; rw [if_pos (by omega)]
 simp at h0
 conv => whnf
 refine LoopX.rule hT (C := []) (ι := Nat) (fun i => i ≤ l.length ∧ ∀ j, j < i → taxE l j = 0) (fun i => mkSt [(0, .d (taxs l)), (10, .d (taxs l)), (11, .d (.int .i64 l.length)), (12, .d (.int .i64 i))] []) (fun i => l.length - i) 0 ⟨by omega, by omega⟩ (by (refine Entails.mk' [] rfl rfl ?_ ?_ <;> repeat' (first | exact True.intro | exact lr | exact rr | exact SV.le_int (by omega) | exact SV.le_any _ | refine And.intro ?_ ?_)); done) ?_
 rintro i ⟨p1, p2⟩
 have e1 : (i : Int).toNat = i := Int.toNat_natCast i
 have hK : (i : Int) < l.length → taxK (l.getD (i : Int).toNat tax0) := fun hi => hk.2 _ (getD_mem (by omega))
 have hD := y309ac (l.take (i : Int).toNat) (by rw [List.length_take]; have := hk.1; omega) (l.getD (i : Int).toNat tax0)
 conv => whnf
 repeat' (first | (refine CallX.exact (s108 _ (hK (by omega)).1) rfl rfl ?_; rotate_right; conv => whnf) | (refine CallX.exact (s119 _ _ _) rfl rfl ?_; rotate_right; conv => whnf) | (refine CallX.of hD [(1000001, 4)] rfl ⟨le_takeT (by omega), lr, trivial⟩ ⟨rr, trivial⟩ rfl rfl ?_; rintro v rout ⟨rfl, rfl⟩; refine ⟨rfl, ?_⟩; conv => whnf) | (refine br_intro ?_ ?_ <;> intro hb <;> (try simp only [brs] at hb) <;> conv => whnf) | omega | (refine And.intro ?_ ?_; ((try dsimp only); first | omega | (refine szA rfl ?_; omega) | (refine szB rfl ?_; omega) | (unfold inI64; omega) | exact rfl | (simp only [List.toList_toArray, List.length_cons, List.length_nil]; omega) | (simp only [lns] at *; omega) | decide | (unfold inI64; decide)); conv => whnf) | decide | assumption)
 · refine .ret _ ?_
   conv => whnf
   refine ⟨[], ⟨?_, rfl⟩, trivial⟩
   conv => lhs; whnf
   congr 2
   exact (taxE_hit (by omega) (by omega) p2 (by decide) (by clear p2 hD hk hK; simp only [e1] at *; unfold taxE; grind)).symm
 · refine .ret _ ?_
   conv => whnf
   refine ⟨[], ⟨?_, rfl⟩, trivial⟩
   conv => lhs; whnf
   congr 2
   exact (taxE_hit (by omega) (by omega) p2 (by decide) (by clear p2 hD hk hK; simp only [e1] at *; unfold taxE; grind)).symm
 · refine .ret _ ?_
   conv => whnf
   refine ⟨[], ⟨?_, rfl⟩, trivial⟩
   conv => lhs; whnf
   congr 2
   exact (taxE_hit (by omega) (by omega) p2 (by decide) (by clear p2 hD hk hK; simp only [e1] at *; unfold taxE; grind)).symm
 · have hi : i < l.length := by omega
   have hT1 : taxE l i = txOns (l.getD (i : Int).toNat tax0).on := by clear p2 hD hk hK; simp only [e1] at *; unfold taxE; grind
   obtain ⟨X, hX⟩ : ∃ X, X = l.getD (i : Int).toNat tax0 := ⟨_, rfl⟩
   have hXl : X.on.length ≤ 2^40 := by rw [hX]; exact (hK (by omega)).2
   rw [← hX] at hT1
   refine LoopX.rule hT (C := []) (ι := Nat) (fun k => k ≤ X.on.length ∧ ∀ j, j < k → txOn X.on j = 0) (fun k => mkSt [(0, .d (taxs l)), (4, .ptr 4 0), (10, .d (taxs l)), (11, .d (.int .i64 l.length)), (12, .d (.int .i64 i)), (34, .d (ints X.on)), (35, .d (.int .i64 X.on.length)), (36, .d (.int .i64 k))] [(4, taxC X)]) (fun k => X.on.length - k) 0 ⟨by omega, by omega⟩ (by subst hX; exact (by (refine Entails.mk' [(4, 4)] rfl rfl ?_ ?_ <;> repeat' (first | exact True.intro | exact lr | exact rr | exact SV.le_int (by omega) | exact SV.le_any _ | refine And.intro ?_ ?_)); done)) ?_
   rintro k ⟨q1, q2⟩
   have e2 : (k : Int).toNat = k := Int.toNat_natCast k
   have hbad : ∀ e : Int, k < X.on.length → e ≠ 0 → txOn X.on k = e → taxsE l = e := fun e h h1 h2 => taxE_hit (by omega) hi p2 h1 (by rw [hT1]; exact firstAt_eq h q2 h1 h2)
   clear hD hK hk
   conv => whnf
   repeat' (first | (refine CallX.exact (s119 _ _ _) rfl rfl ?_; rotate_right; conv => whnf) | (refine br_intro ?_ ?_ <;> intro hb <;> (try simp only [brs] at hb) <;> conv => whnf) | omega | (refine And.intro ?_ ?_; ((try dsimp only); first | omega | (refine szA rfl ?_; omega) | (refine szB rfl ?_; omega) | (unfold inI64; omega) | exact rfl | (simp only [List.toList_toArray, List.length_cons, List.length_nil]; omega) | (simp only [lns] at *; omega) | decide | (unfold inI64; decide)); conv => whnf) | decide | assumption)
   all_goals first
    | (refine ⟨k + 1, ⟨by omega, first_step q2 (by clear p2 q2 hbad hT1 hX; simp only [e2, toNat_pred] at *; unfold txOn; grind)⟩, by omega, (by (refine Entails.mk' [(4, 4)] rfl rfl ?_ ?_ <;> repeat' (first | exact True.intro | exact lr | exact rr | exact SV.le_int (by omega) | exact SV.le_any _ | refine And.intro ?_ ?_)); done)⟩)
    | (refine .ret _ ?_
       conv => whnf
       refine ⟨[], ⟨?_, rfl⟩, trivial⟩
       conv => lhs; whnf
       congr 2
       exact (hbad _ (by omega) (by decide) (by clear p2 q2 hbad hT1 hX; simp only [e2, toNat_pred] at *; unfold txOn; grind)).symm)
    | (refine ⟨i + 1, ⟨by omega, first_step p2 ?_⟩, by omega, (by (refine Entails.mk' [] rfl rfl ?_ ?_ <;> repeat' (first | exact True.intro | exact lr | exact rr | exact SV.le_int (by omega) | exact SV.le_any _ | refine And.intro ?_ ?_)); done)⟩
       rw [hT1]
       have : k = X.on.length := by omega
       subst this
       exact firstAt_zero q2)
 · refine .ret _ ?_
   conv => whnf
   refine ⟨[], ⟨?_, rfl⟩, trivial⟩
   conv => lhs; whnf
   congr 2
   have : i = l.length := by omega
   subst this
   unfold taxsE; rw [if_neg (by omega), firstAt_zero p2]
set_option maxHeartbeats 2000000 in
theorem y165 (l : List Tax) (hk : taxOk l) : FSpec Tryz.prog 101 [.d (taxs l)] [] (fun x r => x = .d (.int .i64 (taxsE l)) ∧ r = []) := by
 refine spec_of hT (C := []) Tryz.func101 rfl Tryz.call101 rfl rfl rfl ?_
 conv => whnf
 refine br_intro (fun h0 => ?_) (fun h0 => ?_)
 · simp at h0
   conv => whnf
   refine .ret _ ?_
   conv => whnf
   refine ⟨[], ⟨?_, rfl⟩, trivial⟩
   conv => lhs; whnf
   unfold taxsE; rw [if_pos (by omega)]
 simp at h0
 conv => whnf
 refine LoopX.rule hT (C := []) (ι := Nat) (fun i => i ≤ l.length ∧ ∀ j, j < i → taxE l j = 0) (fun i => mkSt [(0, .d (taxs l)), (10, .d (taxs l)), (11, .d (.int .i64 l.length)), (12, .d (.int .i64 i))] []) (fun i => l.length - i) 0 ⟨by omega, by omega⟩ (by (refine Entails.mk' [] rfl rfl ?_ ?_ <;> repeat' (first | exact True.intro | exact lr | exact rr | exact SV.le_int (by omega) | exact SV.le_any _ | refine And.intro ?_ ?_)); done) ?_
 rintro i ⟨p1, p2⟩
 have e1 : (i : Int).toNat = i := Int.toNat_natCast i
 have hK : (i : Int) < l.length → taxK (l.getD (i : Int).toNat tax0) := fun hi => hk.2 _ (getD_mem (by omega))
 have hD := y309bc (l.take (i : Int).toNat) (by rw [List.length_take]; have := hk.1; omega) (l.getD (i : Int).toNat tax0)
 conv => whnf
 repeat' (first | (refine CallX.exact (s21 _ (hK (by omega)).1) rfl rfl ?_; rotate_right; conv => whnf) | (refine CallX.exact (s110 _ _ _) rfl rfl ?_; rotate_right; conv => whnf) | (refine CallX.of hD [(1000001, 4)] rfl ⟨le_takeT (by omega), lr, trivial⟩ ⟨rr, trivial⟩ rfl rfl ?_; rintro v rout ⟨rfl, rfl⟩; refine ⟨rfl, ?_⟩; conv => whnf) | (refine br_intro ?_ ?_ <;> intro hb <;> (try simp only [brs] at hb) <;> conv => whnf) | omega | (refine And.intro ?_ ?_; ((try dsimp only); first | omega | (refine szA rfl ?_; omega) | (refine szB rfl ?_; omega) | (unfold inI64; omega) | exact rfl | (simp only [List.toList_toArray, List.length_cons, List.length_nil]; omega) | (simp only [lns] at *; omega) | decide | (unfold inI64; decide)); conv => whnf) | decide | assumption)
 · refine .ret _ ?_
   conv => whnf
   refine ⟨[], ⟨?_, rfl⟩, trivial⟩
   conv => lhs; whnf
   congr 2
   exact (taxE_hit (by omega) (by omega) p2 (by decide) (by clear p2 hD hk hK; simp only [e1] at *; unfold taxE; grind)).symm
 · refine .ret _ ?_
   conv => whnf
   refine ⟨[], ⟨?_, rfl⟩, trivial⟩
   conv => lhs; whnf
   congr 2
   exact (taxE_hit (by omega) (by omega) p2 (by decide) (by clear p2 hD hk hK; simp only [e1] at *; unfold taxE; grind)).symm
 · refine .ret _ ?_
   conv => whnf
   refine ⟨[], ⟨?_, rfl⟩, trivial⟩
   conv => lhs; whnf
   congr 2
   exact (taxE_hit (by omega) (by omega) p2 (by decide) (by clear p2 hD hk hK; simp only [e1] at *; unfold taxE; grind)).symm
 · have hi : i < l.length := by omega
   have hT1 : taxE l i = txOns (l.getD (i : Int).toNat tax0).on := by clear p2 hD hk hK; simp only [e1] at *; unfold taxE; grind
   obtain ⟨X, hX⟩ : ∃ X, X = l.getD (i : Int).toNat tax0 := ⟨_, rfl⟩
   have hXl : X.on.length ≤ 2^40 := by rw [hX]; exact (hK (by omega)).2
   rw [← hX] at hT1
   refine LoopX.rule hT (C := []) (ι := Nat) (fun k => k ≤ X.on.length ∧ ∀ j, j < k → txOn X.on j = 0) (fun k => mkSt [(0, .d (taxs l)), (4, .ptr 4 0), (10, .d (taxs l)), (11, .d (.int .i64 l.length)), (12, .d (.int .i64 i)), (34, .d (ints X.on)), (35, .d (.int .i64 X.on.length)), (36, .d (.int .i64 k))] [(4, taxC X)]) (fun k => X.on.length - k) 0 ⟨by omega, by omega⟩ (by subst hX; exact (by (refine Entails.mk' [(4, 4)] rfl rfl ?_ ?_ <;> repeat' (first | exact True.intro | exact lr | exact rr | exact SV.le_int (by omega) | exact SV.le_any _ | refine And.intro ?_ ?_)); done)) ?_
   rintro k ⟨q1, q2⟩
   have e2 : (k : Int).toNat = k := Int.toNat_natCast k
   have hbad : ∀ e : Int, k < X.on.length → e ≠ 0 → txOn X.on k = e → taxsE l = e := fun e h h1 h2 => taxE_hit (by omega) hi p2 h1 (by rw [hT1]; exact firstAt_eq h q2 h1 h2)
   clear hD hK hk
   conv => whnf
   repeat' (first | (refine CallX.exact (s110 _ _ _) rfl rfl ?_; rotate_right; conv => whnf) | (refine br_intro ?_ ?_ <;> intro hb <;> (try simp only [brs] at hb) <;> conv => whnf) | omega | (refine And.intro ?_ ?_; ((try dsimp only); first | omega | (refine szA rfl ?_; omega) | (refine szB rfl ?_; omega) | (unfold inI64; omega) | exact rfl | (simp only [List.toList_toArray, List.length_cons, List.length_nil]; omega) | (simp only [lns] at *; omega) | decide | (unfold inI64; decide)); conv => whnf) | decide | assumption)
   all_goals first
    | (refine ⟨k + 1, ⟨by omega, first_step q2 (by clear p2 q2 hbad hT1 hX; simp only [e2, toNat_pred] at *; unfold txOn; grind)⟩, by omega, (by (refine Entails.mk' [(4, 4)] rfl rfl ?_ ?_ <;> repeat' (first | exact True.intro | exact lr | exact rr | exact SV.le_int (by omega) | exact SV.le_any _ | refine And.intro ?_ ?_)); done)⟩)
    | (refine .ret _ ?_
       conv => whnf
       refine ⟨[], ⟨?_, rfl⟩, trivial⟩
       conv => lhs; whnf
       congr 2
       exact (hbad _ (by omega) (by decide) (by clear p2 q2 hbad hT1 hX; simp only [e2, toNat_pred] at *; unfold txOn; grind)).symm)
    | (refine ⟨i + 1, ⟨by omega, first_step p2 ?_⟩, by omega, (by (refine Entails.mk' [] rfl rfl ?_ ?_ <;> repeat' (first | exact True.intro | exact lr | exact rr | exact SV.le_int (by omega) | exact SV.le_any _ | refine And.intro ?_ ?_)); done)⟩
       rw [hT1]
       have : k = X.on.length := by omega
       subst this
       exact firstAt_zero q2)
 · refine .ret _ ?_
   conv => whnf
   refine ⟨[], ⟨?_, rfl⟩, trivial⟩
   conv => lhs; whnf
   congr 2
   have : i = l.length := by omega
   subst this
   unfold taxsE; rw [if_neg (by omega), firstAt_zero p2]
def oUTaD44_1 : List (Nat × List Nat) := [(0, []), (1, []), (3, [0, 1]), (4, [0, 1]), (6, [0, 1, 3, 4]), (7, [0, 1, 3, 4]), (9, [0, 1, 3, 4, 6, 7]), (10, [0, 1, 3, 4, 6, 7]), (12, [0, 1, 3, 4, 6, 7, 9, 10]), (13, [0, 1, 3, 4, 6, 7, 9, 10]), (2, [3, 4, 6, 7, 9, 10, 12, 13]), (5, [6, 7, 9, 10, 12, 13]), (8, [9, 10, 12, 13]), (11, [12, 13]), (14, []), (15, []), (16, []), (17, [])]
def oUTaD47_1 : List (Nat × List Nat) := [(0, []), (1, []), (3, [0, 1]), (4, [0, 1]), (6, [0, 1, 3, 4]), (7, [0, 1, 3, 4]), (9, [0, 1, 3, 4, 6, 7]), (10, [0, 1, 3, 4, 6, 7]), (12, [0, 1, 3, 4, 6, 7, 9, 10]), (13, [0, 1, 3, 4, 6, 7, 9, 10]), (17, [0, 1, 3, 4, 6, 7, 9, 10, 12, 13]), (2, [3, 4, 6, 7, 9, 10, 12, 13, 17]), (5, [6, 7, 9, 10, 12, 13, 17]), (8, [9, 10, 12, 13, 17]), (11, [12, 13, 17]), (14, [17]), (15, [17]), (16, [17])]
def oUTaD15_1 : List (Nat × List Nat) := [(0, []), (1, []), (3, [0, 1]), (4, [0, 1]), (6, [0, 1, 3, 4]), (7, [0, 1, 3, 4]), (2, [3, 4, 6, 7]), (5, [6, 7]), (8, []), (9, []), (10, []), (11, [])]
def oUTaD16_1 : List (Nat × List Nat) := [(0, []), (1, []), (3, [0, 1]), (4, [0, 1]), (6, [0, 1, 3, 4]), (7, [0, 1, 3, 4]), (11, [0, 1, 3, 4, 6, 7]), (2, [3, 4, 6, 7, 11]), (5, [6, 7, 11]), (8, [11]), (9, [11]), (10, [11])]
structure Tar where
 rat : List Rat
 ext : List Ext
 fe : List Fe
 cod : List Cod
 tax : List Tax
def tarL (t : Tar) : List SV := [.d (rats t.rat), .d (exts t.ext), .d (fes t.fe), .d (cods t.cod), .d (taxs t.tax)]
def tarOk (t : Tar) : Prop := ratOk t.rat ∧ extOk t.ext ∧ feOk t.fe ∧ codOk t.cod ∧ taxOk t.tax
def tarE (t : Tar) : Int := firstE [ratsE t.rat, extsE t.ext, fesE t.fe, codsE t.cod, taxsE t.tax]
structure Dea where
 free : Int
 km : Int
 eig : Int
 grc : Int
 hr : Int
 dy : Int
 dep : Int
def deaF (d : Dea) : List DV := [.int .i64 d.free, .int .i64 d.km, .int .i64 d.eig, .int .i64 d.grc, .int .i64 d.hr, .int .i64 d.dy, .int .i64 d.dep]
def deaE (d : Dea) : Int := if (0 ≤ d.free ∧ d.free ≤ 10000) ∧ (0 ≤ d.km ∧ d.km ≤ 100000) ∧ (0 ≤ d.eig ∧ d.eig ≤ 100000) ∧ (0 ≤ d.grc ∧ d.grc ≤ 1440) ∧ (0 ≤ d.hr ∧ d.hr ≤ 1000000) ∧ (0 ≤ d.dy ∧ d.dy ≤ 1000000) ∧ (0 ≤ d.dep ∧ d.dep ≤ 1000000) then 0 else 1
theorem firstE_hit : ∀ {R : List Int} {i : Nat}, i < R.length → (∀ j, j < i → R.getD j 0 = 0) → R.getD i 0 ≠ 0 → firstE R = R.getD i 0
 | [], i, h, _, _ => by simp at h
 | x :: R, 0, _, _, h => by simp only [List.getD_cons_zero] at h ⊢; rw [firstE, if_neg h]
 | x :: R, i + 1, h, p, q => by
   have h0 : x = 0 := p 0 (by omega)
   simp only [List.getD_cons_succ] at q ⊢
   rw [firstE, if_pos h0]
   exact firstE_hit (by simpa using h) (fun j hj => by have := p (j + 1) (by omega); simpa using this) q
theorem firstE_none : ∀ {R : List Int}, (∀ j, j < R.length → R.getD j 0 = 0) → firstE R = 0
 | [], _ => rfl
 | x :: R, p => by
   have h0 : x = 0 := p 0 (by simp)
   rw [firstE, if_pos h0]
   exact firstE_none (fun j hj => by have := p (j + 1) (by simpa using hj); simpa using this)
theorem y81 (t : Tar) (hk : tarOk t) : FSpec Tryz.prog 44 [.agg (tarL t)] [] (fun x r => x = .d (.int .i64 (tarE t)) ∧ r = []) := by
 refine spec_of hT (C := []) Tryz.func44 rfl Tryz.call44 rfl rfl rfl ?_
 conv => whnf
 repeat' (first | (refine CallX.exact (y149 _ hk.1) rfl rfl ?_; rotate_right; conv => whnf) | (refine CallX.exact (y150 _ hk.2.1) rfl rfl ?_; rotate_right; conv => whnf) | (refine CallX.exact (y151 _ hk.2.2.1) rfl rfl ?_; rotate_right; conv => whnf) | (refine CallX.exact (y152 _ hk.2.2.2.1) rfl rfl ?_; rotate_right; conv => whnf) | (refine CallX.exact (y153 _ hk.2.2.2.2) rfl rfl ?_; rotate_right; conv => whnf) | (refine CallX.pure (s105 [_, _, _, _, _] (by simp)) ⟨SV.le_lit (by rfl) (by rfl), trivial⟩ rfl ?_; conv => whnf) | (refine br_intro ?_ ?_ <;> intro hb <;> (try simp only [brs] at hb) <;> conv => whnf) | (refine RegX.rule (id := 1) hT rfl [] oUTaD44_1 (by decide +kernel) ?_; conv => whnf) | omega | (refine And.intro ?_ ?_; ((try dsimp only); first | omega | (refine szA rfl ?_; omega) | (refine szB rfl ?_; omega) | (unfold inI64; omega) | exact rfl | (simp only [List.toList_toArray, List.length_cons, List.length_nil]; omega) | (simp only [lns] at *; omega) | decide | (unfold inI64; decide)); conv => whnf) | decide | assumption)
 refine .ret _ ?_
 conv => whnf
 refine ⟨[], ⟨?_, rfl⟩, trivial⟩
 conv => lhs; whnf
 rfl
theorem y84 (t : Tar) (hk : tarOk t) : FSpec Tryz.prog 47 [.agg (tarL t)] [] (fun x r => x = .d (.int .i64 (tarE t)) ∧ r = []) := by
 have h1 := y161 _ hk.1
 have h2 := y162 _ hk.2.1
 have h3 := y163 _ hk.2.2.1
 have h4 := y164 _ hk.2.2.2.1
 have h5 := y165 _ hk.2.2.2.2
 unfold tarE
 generalize ratsE t.rat = r1 at h1 ⊢
 generalize extsE t.ext = r2 at h2 ⊢
 generalize fesE t.fe = r3 at h3 ⊢
 generalize codsE t.cod = r4 at h4 ⊢
 generalize taxsE t.tax = r5 at h5 ⊢
 refine spec_of hT (C := []) Tryz.func47 rfl Tryz.call47 rfl rfl rfl ?_
 conv => whnf
 repeat' (first | (refine CallX.exact (h1) rfl rfl ?_; rotate_right; conv => whnf) | (refine CallX.exact (h2) rfl rfl ?_; rotate_right; conv => whnf) | (refine CallX.exact (h3) rfl rfl ?_; rotate_right; conv => whnf) | (refine CallX.exact (h4) rfl rfl ?_; rotate_right; conv => whnf) | (refine CallX.exact (h5) rfl rfl ?_; rotate_right; conv => whnf) | (refine br_intro ?_ ?_ <;> intro hb <;> (try simp only [brs] at hb) <;> conv => whnf) | (refine RegX.rule (id := 1) hT rfl [] oUTaD47_1 (by decide +kernel) ?_; conv => whnf) | omega | (refine And.intro ?_ ?_; ((try dsimp only); first | omega | (refine szA rfl ?_; omega) | (refine szB rfl ?_; omega) | (unfold inI64; omega) | exact rfl | (simp only [List.toList_toArray, List.length_cons, List.length_nil]; omega) | (simp only [lns] at *; omega) | decide | (unfold inI64; decide)); conv => whnf) | decide | assumption)
 obtain ⟨R, hR⟩ : ∃ R : List Int, R = [r1, r2, r3, r4, r5] := ⟨_, rfl⟩
 have hRl : R.length = 5 := by rw [hR]; rfl
 rw [← hR]
 refine LoopX.rule hT (C := []) (ι := Nat) (fun i => i ≤ 5 ∧ ∀ j, j < i → R.getD j 0 = 0) (fun i => mkSt [(20, .d (ints R)), (21, .d (.int .i64 5)), (22, .d (.int .i64 i))] []) (fun i => 5 - i) 0 ⟨by omega, by omega⟩ (by subst hR; exact (by (refine Entails.mk' [] rfl rfl ?_ ?_ <;> repeat' (first | exact True.intro | exact lr | exact rr | (exact SV.le_lit rfl rfl) | exact SV.le_int (by omega) | exact SV.le_any _ | refine And.intro ?_ ?_)); done)) ?_
 rintro i ⟨p1, p2⟩
 have e1 : (i : Int).toNat = i := Int.toNat_natCast i
 conv => whnf
 repeat' (first | (refine br_intro ?_ ?_ <;> intro hb <;> (try simp only [brs] at hb) <;> conv => whnf) | (refine RegX.rule (id := 1) hT rfl [] oUTaD47_1 (by decide +kernel) ?_; conv => whnf) | omega | (refine And.intro ?_ ?_; ((try dsimp only); first | omega | (refine szA rfl ?_; omega) | (refine szB rfl ?_; omega) | (unfold inI64; omega) | exact rfl | (simp only [List.toList_toArray, List.length_cons, List.length_nil]; omega) | (simp only [lns] at *; omega) | decide | (unfold inI64; decide)); conv => whnf) | decide | assumption)
 · refine .ret _ ?_
   conv => whnf
   refine ⟨[], ⟨?_, rfl⟩, trivial⟩
   conv => lhs; whnf
   congr 2
   exact (firstE_hit (by omega) p2 hb).symm
 · exact ⟨i + 1, ⟨by omega, all_step p2 hb⟩, by omega, (by (refine Entails.mk' [] rfl rfl ?_ ?_ <;> repeat' (first | exact True.intro | exact lr | exact rr | exact SV.le_int (by omega) | exact SV.le_any _ | refine And.intro ?_ ?_)); done)⟩
 · refine .ret _ ?_
   conv => whnf
   refine ⟨[], ⟨?_, rfl⟩, trivial⟩
   conv => lhs; whnf
   congr 2
   exact (firstE_none (fun j hj => p2 j (by omega))).symm
theorem y82 (d : Dea) : FSpec Tryz.prog 45 [.agg ((deaF d).map .d)] [] (fun x r => x = .d (.int .i64 (deaE d)) ∧ r = []) := by
 refine spec_of hT (C := []) Tryz.func45 rfl Tryz.call45 rfl rfl rfl ?_
 conv => whnf
 repeat' (first | (refine CallX.exact (s119 _ _ _) rfl rfl ?_; rotate_right; conv => whnf) | (refine CallX.exact (s107 _ _) rfl rfl ?_; rotate_right; conv => whnf) | (refine br_intro ?_ ?_ <;> intro hb <;> (try simp only [brs] at hb) <;> conv => whnf) | omega | (refine And.intro ?_ ?_; ((try dsimp only); first | omega | (refine szA rfl ?_; omega) | (refine szB rfl ?_; omega) | (unfold inI64; omega) | exact rfl | (simp only [List.toList_toArray, List.length_cons, List.length_nil]; omega) | (simp only [lns] at *; omega) | decide | (unfold inI64; decide)); conv => whnf) | decide | assumption)
 all_goals
  refine .ret _ ?_
  conv => whnf
  refine ⟨[], ⟨?_, rfl⟩, trivial⟩
  conv => lhs; whnf
  congr 2
  unfold deaE
  grind
theorem y85 (d : Dea) : FSpec Tryz.prog 48 [.agg ((deaF d).map .d)] [] (fun x r => x = .d (.int .i64 (deaE d)) ∧ r = []) := by
 refine spec_of hT (C := []) Tryz.func48 rfl Tryz.call48 rfl rfl rfl ?_
 conv => whnf
 repeat' (first | (refine CallX.exact (s110 _ _ _) rfl rfl ?_; rotate_right; conv => whnf) | (refine br_intro ?_ ?_ <;> intro hb <;> (try simp only [brs] at hb) <;> conv => whnf) | omega | (refine And.intro ?_ ?_; ((try dsimp only); first | omega | (refine szA rfl ?_; omega) | (refine szB rfl ?_; omega) | (unfold inI64; omega) | exact rfl | (simp only [List.toList_toArray, List.length_cons, List.length_nil]; omega) | (simp only [lns] at *; omega) | decide | (unfold inI64; decide)); conv => whnf) | decide | assumption)
 all_goals
  refine .ret _ ?_
  conv => whnf
  refine ⟨[], ⟨?_, rfl⟩, trivial⟩
  conv => lhs; whnf
  congr 2
  unfold deaE
  grind
structure Hou where
 flt : Flt
 tar : Tar
 dea : Dea
def fltL (f : Flt) : List SV := [.d (stas f.sta), .d (clss f.cls), .d (vehs f.veh), .d (plts f.plt)]
def hou (h : Hou) : SV := .agg (fltL h.flt ++ tarL h.tar ++ (deaF h.dea).map .d)
def houOk (h : Hou) : Prop := fltOk h.flt ∧ tarOk h.tar
def houE (h : Hou) : Int := firstE [fltE h.flt, tarE h.tar, deaE h.dea]
theorem y20h (h : Hou) (hk : houOk h) : FSpec Tryz.prog 15 [hou h] [] (fun x r => x = .d (.int .i64 (houE h)) ∧ r = []) := by
 refine spec_of hT (C := []) Tryz.func15 rfl Tryz.call15 rfl rfl rfl ?_
 conv => whnf
 repeat' (first | (refine CallX.exact (z114 h.flt hk.1) rfl rfl ?_; rotate_right; conv => whnf) | (refine CallX.exact (y81 h.tar hk.2) rfl rfl ?_; rotate_right; conv => whnf) | (refine CallX.exact (y82 h.dea) rfl rfl ?_; rotate_right; conv => whnf) | (refine CallX.pure (s105 [_, _, _] (by simp)) ⟨SV.le_lit (by rfl) (by rfl), trivial⟩ rfl ?_; conv => whnf) | (refine br_intro ?_ ?_ <;> intro hb <;> (try simp only [brs] at hb) <;> conv => whnf) | (refine RegX.rule (id := 1) hT rfl [] oUTaD15_1 (by decide +kernel) ?_; conv => whnf) | omega | (refine And.intro ?_ ?_; ((try dsimp only); first | omega | (refine szA rfl ?_; omega) | (refine szB rfl ?_; omega) | (unfold inI64; omega) | exact rfl | (simp only [List.toList_toArray, List.length_cons, List.length_nil]; omega) | (simp only [lns] at *; omega) | decide | (unfold inI64; decide)); conv => whnf) | decide | assumption)
 refine .ret _ ?_
 conv => whnf
 refine ⟨[], ⟨?_, rfl⟩, trivial⟩
 conv => lhs; whnf
 rfl
theorem y21h (h : Hou) (hk : houOk h) : FSpec Tryz.prog 16 [hou h] [] (fun x r => x = .d (.int .i64 (houE h)) ∧ r = []) := by
 have h1 := z21 h.flt hk.1
 have h2 := y84 h.tar hk.2
 have h3 := y85 h.dea
 unfold houE
 generalize fltE h.flt = r1 at h1 ⊢
 generalize tarE h.tar = r2 at h2 ⊢
 generalize deaE h.dea = r3 at h3 ⊢
 refine spec_of hT (C := []) Tryz.func16 rfl Tryz.call16 rfl rfl rfl ?_
 conv => whnf
 repeat' (first | (refine CallX.exact (h1) rfl rfl ?_; rotate_right; conv => whnf) | (refine CallX.exact (h2) rfl rfl ?_; rotate_right; conv => whnf) | (refine CallX.exact (h3) rfl rfl ?_; rotate_right; conv => whnf) | (refine br_intro ?_ ?_ <;> intro hb <;> (try simp only [brs] at hb) <;> conv => whnf) | (refine RegX.rule (id := 1) hT rfl [] oUTaD16_1 (by decide +kernel) ?_; conv => whnf) | omega | (refine And.intro ?_ ?_; ((try dsimp only); first | omega | (refine szA rfl ?_; omega) | (refine szB rfl ?_; omega) | (unfold inI64; omega) | exact rfl | (simp only [List.toList_toArray, List.length_cons, List.length_nil]; omega) | (simp only [lns] at *; omega) | decide | (unfold inI64; decide)); conv => whnf) | decide | assumption)
 obtain ⟨R, hR⟩ : ∃ R : List Int, R = [r1, r2, r3] := ⟨_, rfl⟩
 have hRl : R.length = 3 := by rw [hR]; rfl
 rw [← hR]
 refine LoopX.rule hT (C := []) (ι := Nat) (fun i => i ≤ 3 ∧ ∀ j, j < i → R.getD j 0 = 0) (fun i => mkSt [(14, .d (ints R)), (15, .d (.int .i64 3)), (16, .d (.int .i64 i))] []) (fun i => 3 - i) 0 ⟨by omega, by omega⟩ (by subst hR; exact (by (refine Entails.mk' [] rfl rfl ?_ ?_ <;> repeat' (first | exact True.intro | exact lr | exact rr | (exact SV.le_lit rfl rfl) | exact SV.le_int (by omega) | exact SV.le_any _ | refine And.intro ?_ ?_)); done)) ?_
 rintro i ⟨p1, p2⟩
 have e1 : (i : Int).toNat = i := Int.toNat_natCast i
 conv => whnf
 repeat' (first | (refine br_intro ?_ ?_ <;> intro hb <;> (try simp only [brs] at hb) <;> conv => whnf) | (refine RegX.rule (id := 1) hT rfl [] oUTaD16_1 (by decide +kernel) ?_; conv => whnf) | omega | (refine And.intro ?_ ?_; ((try dsimp only); first | omega | (refine szA rfl ?_; omega) | (refine szB rfl ?_; omega) | (unfold inI64; omega) | exact rfl | (simp only [List.toList_toArray, List.length_cons, List.length_nil]; omega) | (simp only [lns] at *; omega) | decide | (unfold inI64; decide)); conv => whnf) | decide | assumption)
 · refine .ret _ ?_
   conv => whnf
   refine ⟨[], ⟨?_, rfl⟩, trivial⟩
   conv => lhs; whnf
   congr 2
   exact (firstE_hit (by omega) p2 hb).symm
 · exact ⟨i + 1, ⟨by omega, all_step p2 hb⟩, by omega, (by (refine Entails.mk' [] rfl rfl ?_ ?_ <;> repeat' (first | exact True.intro | exact lr | exact rr | exact SV.le_int (by omega) | exact SV.le_any _ | refine And.intro ?_ ?_)); done)⟩
 · refine .ret _ ?_
   conv => whnf
   refine ⟨[], ⟨?_, rfl⟩, trivial⟩
   conv => lhs; whnf
   congr 2
   exact (firstE_none (fun j hj => p2 j (by omega))).symm
def staC (s : Sta) : Res := .cells 90 ((staF s).map .d)
def setH (s : Sta) (k : Nat) (x y : Int) : Sta := { s with h := fun j => if j = 2 * k then x else if j = 2 * k + 1 then y else s.h j }
set_option maxHeartbeats 4000000 in
theorem sStas (n : Nat) (L : Nat → Int) (hL : Rok n L) (a : Int) (h0 : 0 ≤ a) (ha : a ≤ 2^36) :
 FSpec Tryz.prog 106 [.ptr 1000000 0] [(1000000, strm n L a)] (fun y r => ∃ l : List Sta, ∃ b, allK staK 3 l ∧ (a ≤ b ∧ b ≤ a + 300) ∧ y = .buf 3 ∧ r = [(3, seqB 90 15 staF sta0 l), (1000000, strm n L b)]) := by
 refine spec_of hT (C := []) Tryz.func106 rfl Tryz.call106 rfl rfl rfl ?_
 conv => whnf
 refine LoopX.rule hT (C := []) (ι := Int × List Sta × Nat) (fun (b, l, i) => (a ≤ b ∧ b ≤ a + 100 * i ∧ i ≤ 3) ∧ allK staK i l)
  (fun (b, l, i) => mkSt [(0, .ptr 1000000 0), (3, .buf 3), (9, .d (strs [[115, 49], [115, 50], [115, 51]])), (10, .d (.int .i64 3)), (11, .d (.int .i64 i))] [(1000000, strm n L b), (3, seqB 90 15 staF sta0 l)])
  (fun (_, _, i) => 3 - i) (a, [], 0) ⟨⟨by simp, by simp, by simp⟩, ⟨by simp, by simp⟩⟩ ?_ ?_
 · refine (Entails.nil 3 3 90 15 (rowF staF sta0 []) rfl rfl (by decide)).trans (Entails.mk' [(1000000, 1000000), (3, 3)] rfl rfl ⟨lr, lr, SV.le_lit rfl rfl, lr, lr, trivial⟩ ⟨rr, rr, trivial⟩)
 rintro ⟨b, l, i⟩ ⟨⟨p1, p2, p3⟩, p4⟩
 have p1 : a ≤ b := p1
 have p2 : b ≤ a + 100 * i := p2
 have p3 : i ≤ 3 := p3
 have p4 : allK staK i l := p4
 have hl1 : l.length ≤ i := p4.1
 have e1 : (i : Int).toNat = i := Int.toNat_natCast i
 conv => whnf
 repeat' (first | (refine CallX.of (s84 n L hL _ ?_ ?_ 5 ?_) [(1000000, 1000000)] rfl ⟨lr, lr, trivial⟩ ⟨rr, trivial⟩ rfl rfl ?_; rotate_right; rintro x rout ⟨⟨w, rfl⟩, ⟨c, c1, c2, rfl⟩⟩; refine ⟨rfl, ?_⟩; conv => whnf) | (refine br_intro ?_ ?_ <;> intro hb <;> (try simp only [brs] at hb) <;> conv => whnf) | omega | (refine And.intro ?_ ?_; ((try dsimp only); first | omega | (refine szA rfl ?_; omega) | (refine szB rfl ?_; omega) | (unfold inI64; omega) | exact rfl | (simp only [List.toList_toArray, List.length_cons, List.length_nil]; omega) | (simp only [lns] at *; omega) | decide | (unfold inI64; decide)); conv => whnf) | decide | assumption)
 · exact ⟨(c, l, i + 1), ⟨⟨by omega, by show _ ≤ a + 100 * ((i + 1 : Nat) : Int); omega, by omega⟩, allK_le p4 (by omega)⟩, by show 3 - (i + 1) < 3 - i; omega, (by (refine Entails.mk' [(1000000, 1000000), (3, 3)] rfl rfl ?_ ?_ <;> repeat' (first | exact True.intro | exact lr | exact rr | exact SV.le_int (by omega) | exact SV.le_any _ | refine And.intro ?_ ?_)); done)⟩
 · have hkk : (([[115, 49], [115, 50], [115, 51]] : List (List UInt8)).getD (i : Int).toNat []).length ≤ 8 := mem_len (getD_mem (by show (i : Int).toNat < 3; omega)) rfl
   obtain ⟨cc, rfl⟩ : ∃ cc : Int, cc = c := ⟨_, rfl⟩
   obtain ⟨ky, hky⟩ : ∃ ky, ky = ([[115, 49], [115, 50], [115, 51]] : List (List UInt8)).getD (i : Int).toNat [] := ⟨_, rfl⟩
   refine LoopX.rule hT (C := []) (ι := Int × Sta × Nat) (fun (d, s, k) => (cc ≤ d ∧ d ≤ cc + 10 * k ∧ k ≤ 7) ∧ s.key = ky)
    (fun (d, s, k) => mkSt [(0, .ptr 1000000 0), (3, .buf 3), (6, .ptr 6 0), (9, .d (strs [[115, 49], [115, 50], [115, 51]])), (10, .d (.int .i64 3)), (11, .d (.int .i64 i)), (19, .d (.int .i64 k))] [(1000000, strm n L d), (3, seqB 90 15 staF sta0 l), (6, staC s)])
    (fun (_, _, k) => 7 - k) (cc, ⟨ky, fun _ => 0⟩, 0) ⟨⟨by simp, by simp, by simp⟩, rfl⟩ ?_ ?_
   · exact Entails.mk' [(1000000, 1000000), (3, 3), (6, 6)] rfl rfl ⟨lr, lr, lr, lr, lr, lr, lr, trivial⟩ ⟨rr, rr, by rw [hky]; exact rr, trivial⟩
   rintro ⟨d, s, k⟩ ⟨⟨q1, q2, q3⟩, q4⟩
   have q1 : cc ≤ d := q1
   have q2 : d ≤ cc + 10 * k := q2
   have q3 : k ≤ 7 := q3
   have q4 : s.key = ky := q4
   by_cases hk7 : k = 7
   · subst hk7
     conv => whnf
     repeat' (first | (refine br_intro ?_ ?_ <;> intro hb <;> (try simp only [brs] at hb) <;> conv => whnf) | omega | (refine And.intro ?_ ?_; ((try dsimp only); first | omega | (refine szA rfl ?_; omega) | (refine szB rfl ?_; omega) | (unfold inI64; omega) | exact rfl | (simp only [List.toList_toArray, List.length_cons, List.length_nil]; omega) | (simp only [lns] at *; omega) | decide | (unfold inI64; decide)); conv => whnf) | decide | assumption)
     exact ⟨(d, l ++ [s], i + 1), ⟨⟨by omega, by show _ ≤ a + 100 * ((i + 1 : Nat) : Int); omega, by omega⟩, allK_snoc p4 (by omega) (by show s.key.length ≤ 8; rw [q4, hky]; exact hkk)⟩, by show 3 - (i + 1) < 3 - i; omega,
      Entails.mk' [(1000000, 1000000), (3, 44)] rfl rfl ⟨lr, lr, lr, lr, lr, trivial⟩ ⟨rr, Res.le_snocF rfl, trivial⟩⟩
   · have hk : k = 0 ∨ k = 1 ∨ k = 2 ∨ k = 3 ∨ k = 4 ∨ k = 5 ∨ k = 6 := by omega
     rcases hk with rfl | rfl | rfl | rfl | rfl | rfl | rfl
     · conv => whnf
       repeat' (first | (refine CallX.of (s33 n L hL _ ?_ ?_ [0, 0, 480, 600, 1440] ?_ ?_) [(1000000, 1000000)] rfl ⟨lr, SV.le_lit rfl rfl, trivial⟩ ⟨rr, trivial⟩ rfl rfl ?_; rotate_right; rintro x rout ⟨⟨u1, hu1, rfl⟩, ⟨c, c1, c2, rfl⟩⟩; have hw1 : 0 ≤ u1 ∧ u1 ≤ 1440 := (by simp only [List.mem_cons, List.not_mem_nil, or_false] at hu1; omega); refine ⟨rfl, ?_⟩; conv => whnf) | (refine CallX.of (s64 n L hL _ ?_ ?_ u1 1440 ?_ ?_ ?_ ?_) [(1000000, 1000000)] rfl ⟨lr, lr, lr, trivial⟩ ⟨rr, trivial⟩ rfl rfl ?_; rotate_right; rintro x rout ⟨⟨u2, hv1, hv2, rfl⟩, ⟨c, c1, c2, rfl⟩⟩; refine ⟨rfl, ?_⟩; conv => whnf) | (refine CallX.of (s84 n L hL _ ?_ ?_ 4 ?_) [(1000000, 1000000)] rfl ⟨lr, lr, trivial⟩ ⟨rr, trivial⟩ rfl rfl ?_; rotate_right; rintro x rout ⟨⟨w, rfl⟩, ⟨c, c1, c2, rfl⟩⟩; refine ⟨rfl, ?_⟩; conv => whnf) | (refine br_intro ?_ ?_ <;> intro hb <;> (try simp only [brs] at hb) <;> conv => whnf) | omega | (refine And.intro ?_ ?_; ((try dsimp only); first | omega | (refine szA rfl ?_; omega) | (refine szB rfl ?_; omega) | (unfold inI64; omega) | exact rfl | (simp only [List.toList_toArray, List.length_cons, List.length_nil]; omega) | (simp only [lns] at *; omega) | decide | (unfold inI64; decide)); conv => whnf) | decide | assumption)
       · exact ⟨(c, setH s 0 u1 u1, 1), ⟨⟨by omega, by show _ ≤ cc + 10 * ((1 : Nat) : Int); omega, by omega⟩, q4⟩, by show 7 - 1 < 7 - 0; omega, (by (refine Entails.mk' [(1000000, 1000000), (3, 3), (6, 6)] rfl rfl ?_ ?_ <;> repeat' (first | exact True.intro | exact lr | exact rr | exact SV.le_int (by omega) | exact SV.le_any _ | refine And.intro ?_ ?_)); done)⟩
       · exact ⟨(c, setH s 0 u1 u2, 1), ⟨⟨by omega, by show _ ≤ cc + 10 * ((1 : Nat) : Int); omega, by omega⟩, q4⟩, by show 7 - 1 < 7 - 0; omega, (by (refine Entails.mk' [(1000000, 1000000), (3, 3), (6, 6)] rfl rfl ?_ ?_ <;> repeat' (first | exact True.intro | exact lr | exact rr | exact SV.le_int (by omega) | exact SV.le_any _ | refine And.intro ?_ ?_)); done)⟩
     · conv => whnf
       repeat' (first | (refine CallX.of (s33 n L hL _ ?_ ?_ [0, 0, 480, 600, 1440] ?_ ?_) [(1000000, 1000000)] rfl ⟨lr, SV.le_lit rfl rfl, trivial⟩ ⟨rr, trivial⟩ rfl rfl ?_; rotate_right; rintro x rout ⟨⟨u1, hu1, rfl⟩, ⟨c, c1, c2, rfl⟩⟩; have hw1 : 0 ≤ u1 ∧ u1 ≤ 1440 := (by simp only [List.mem_cons, List.not_mem_nil, or_false] at hu1; omega); refine ⟨rfl, ?_⟩; conv => whnf) | (refine CallX.of (s64 n L hL _ ?_ ?_ u1 1440 ?_ ?_ ?_ ?_) [(1000000, 1000000)] rfl ⟨lr, lr, lr, trivial⟩ ⟨rr, trivial⟩ rfl rfl ?_; rotate_right; rintro x rout ⟨⟨u2, hv1, hv2, rfl⟩, ⟨c, c1, c2, rfl⟩⟩; refine ⟨rfl, ?_⟩; conv => whnf) | (refine CallX.of (s84 n L hL _ ?_ ?_ 4 ?_) [(1000000, 1000000)] rfl ⟨lr, lr, trivial⟩ ⟨rr, trivial⟩ rfl rfl ?_; rotate_right; rintro x rout ⟨⟨w, rfl⟩, ⟨c, c1, c2, rfl⟩⟩; refine ⟨rfl, ?_⟩; conv => whnf) | (refine br_intro ?_ ?_ <;> intro hb <;> (try simp only [brs] at hb) <;> conv => whnf) | omega | (refine And.intro ?_ ?_; ((try dsimp only); first | omega | (refine szA rfl ?_; omega) | (refine szB rfl ?_; omega) | (unfold inI64; omega) | exact rfl | (simp only [List.toList_toArray, List.length_cons, List.length_nil]; omega) | (simp only [lns] at *; omega) | decide | (unfold inI64; decide)); conv => whnf) | decide | assumption)
       · exact ⟨(c, setH s 1 u1 u1, 2), ⟨⟨by omega, by show _ ≤ cc + 10 * ((2 : Nat) : Int); omega, by omega⟩, q4⟩, by show 7 - 2 < 7 - 1; omega, (by (refine Entails.mk' [(1000000, 1000000), (3, 3), (6, 6)] rfl rfl ?_ ?_ <;> repeat' (first | exact True.intro | exact lr | exact rr | exact SV.le_int (by omega) | exact SV.le_any _ | refine And.intro ?_ ?_)); done)⟩
       · exact ⟨(c, setH s 1 u1 u2, 2), ⟨⟨by omega, by show _ ≤ cc + 10 * ((2 : Nat) : Int); omega, by omega⟩, q4⟩, by show 7 - 2 < 7 - 1; omega, (by (refine Entails.mk' [(1000000, 1000000), (3, 3), (6, 6)] rfl rfl ?_ ?_ <;> repeat' (first | exact True.intro | exact lr | exact rr | exact SV.le_int (by omega) | exact SV.le_any _ | refine And.intro ?_ ?_)); done)⟩
     · conv => whnf
       repeat' (first | (refine CallX.of (s33 n L hL _ ?_ ?_ [0, 0, 480, 600, 1440] ?_ ?_) [(1000000, 1000000)] rfl ⟨lr, SV.le_lit rfl rfl, trivial⟩ ⟨rr, trivial⟩ rfl rfl ?_; rotate_right; rintro x rout ⟨⟨u1, hu1, rfl⟩, ⟨c, c1, c2, rfl⟩⟩; have hw1 : 0 ≤ u1 ∧ u1 ≤ 1440 := (by simp only [List.mem_cons, List.not_mem_nil, or_false] at hu1; omega); refine ⟨rfl, ?_⟩; conv => whnf) | (refine CallX.of (s64 n L hL _ ?_ ?_ u1 1440 ?_ ?_ ?_ ?_) [(1000000, 1000000)] rfl ⟨lr, lr, lr, trivial⟩ ⟨rr, trivial⟩ rfl rfl ?_; rotate_right; rintro x rout ⟨⟨u2, hv1, hv2, rfl⟩, ⟨c, c1, c2, rfl⟩⟩; refine ⟨rfl, ?_⟩; conv => whnf) | (refine CallX.of (s84 n L hL _ ?_ ?_ 4 ?_) [(1000000, 1000000)] rfl ⟨lr, lr, trivial⟩ ⟨rr, trivial⟩ rfl rfl ?_; rotate_right; rintro x rout ⟨⟨w, rfl⟩, ⟨c, c1, c2, rfl⟩⟩; refine ⟨rfl, ?_⟩; conv => whnf) | (refine br_intro ?_ ?_ <;> intro hb <;> (try simp only [brs] at hb) <;> conv => whnf) | omega | (refine And.intro ?_ ?_; ((try dsimp only); first | omega | (refine szA rfl ?_; omega) | (refine szB rfl ?_; omega) | (unfold inI64; omega) | exact rfl | (simp only [List.toList_toArray, List.length_cons, List.length_nil]; omega) | (simp only [lns] at *; omega) | decide | (unfold inI64; decide)); conv => whnf) | decide | assumption)
       · exact ⟨(c, setH s 2 u1 u1, 3), ⟨⟨by omega, by show _ ≤ cc + 10 * ((3 : Nat) : Int); omega, by omega⟩, q4⟩, by show 7 - 3 < 7 - 2; omega, (by (refine Entails.mk' [(1000000, 1000000), (3, 3), (6, 6)] rfl rfl ?_ ?_ <;> repeat' (first | exact True.intro | exact lr | exact rr | exact SV.le_int (by omega) | exact SV.le_any _ | refine And.intro ?_ ?_)); done)⟩
       · exact ⟨(c, setH s 2 u1 u2, 3), ⟨⟨by omega, by show _ ≤ cc + 10 * ((3 : Nat) : Int); omega, by omega⟩, q4⟩, by show 7 - 3 < 7 - 2; omega, (by (refine Entails.mk' [(1000000, 1000000), (3, 3), (6, 6)] rfl rfl ?_ ?_ <;> repeat' (first | exact True.intro | exact lr | exact rr | exact SV.le_int (by omega) | exact SV.le_any _ | refine And.intro ?_ ?_)); done)⟩
     · conv => whnf
       repeat' (first | (refine CallX.of (s33 n L hL _ ?_ ?_ [0, 0, 480, 600, 1440] ?_ ?_) [(1000000, 1000000)] rfl ⟨lr, SV.le_lit rfl rfl, trivial⟩ ⟨rr, trivial⟩ rfl rfl ?_; rotate_right; rintro x rout ⟨⟨u1, hu1, rfl⟩, ⟨c, c1, c2, rfl⟩⟩; have hw1 : 0 ≤ u1 ∧ u1 ≤ 1440 := (by simp only [List.mem_cons, List.not_mem_nil, or_false] at hu1; omega); refine ⟨rfl, ?_⟩; conv => whnf) | (refine CallX.of (s64 n L hL _ ?_ ?_ u1 1440 ?_ ?_ ?_ ?_) [(1000000, 1000000)] rfl ⟨lr, lr, lr, trivial⟩ ⟨rr, trivial⟩ rfl rfl ?_; rotate_right; rintro x rout ⟨⟨u2, hv1, hv2, rfl⟩, ⟨c, c1, c2, rfl⟩⟩; refine ⟨rfl, ?_⟩; conv => whnf) | (refine CallX.of (s84 n L hL _ ?_ ?_ 4 ?_) [(1000000, 1000000)] rfl ⟨lr, lr, trivial⟩ ⟨rr, trivial⟩ rfl rfl ?_; rotate_right; rintro x rout ⟨⟨w, rfl⟩, ⟨c, c1, c2, rfl⟩⟩; refine ⟨rfl, ?_⟩; conv => whnf) | (refine br_intro ?_ ?_ <;> intro hb <;> (try simp only [brs] at hb) <;> conv => whnf) | omega | (refine And.intro ?_ ?_; ((try dsimp only); first | omega | (refine szA rfl ?_; omega) | (refine szB rfl ?_; omega) | (unfold inI64; omega) | exact rfl | (simp only [List.toList_toArray, List.length_cons, List.length_nil]; omega) | (simp only [lns] at *; omega) | decide | (unfold inI64; decide)); conv => whnf) | decide | assumption)
       · exact ⟨(c, setH s 3 u1 u1, 4), ⟨⟨by omega, by show _ ≤ cc + 10 * ((4 : Nat) : Int); omega, by omega⟩, q4⟩, by show 7 - 4 < 7 - 3; omega, (by (refine Entails.mk' [(1000000, 1000000), (3, 3), (6, 6)] rfl rfl ?_ ?_ <;> repeat' (first | exact True.intro | exact lr | exact rr | exact SV.le_int (by omega) | exact SV.le_any _ | refine And.intro ?_ ?_)); done)⟩
       · exact ⟨(c, setH s 3 u1 u2, 4), ⟨⟨by omega, by show _ ≤ cc + 10 * ((4 : Nat) : Int); omega, by omega⟩, q4⟩, by show 7 - 4 < 7 - 3; omega, (by (refine Entails.mk' [(1000000, 1000000), (3, 3), (6, 6)] rfl rfl ?_ ?_ <;> repeat' (first | exact True.intro | exact lr | exact rr | exact SV.le_int (by omega) | exact SV.le_any _ | refine And.intro ?_ ?_)); done)⟩
     · conv => whnf
       repeat' (first | (refine CallX.of (s33 n L hL _ ?_ ?_ [0, 0, 480, 600, 1440] ?_ ?_) [(1000000, 1000000)] rfl ⟨lr, SV.le_lit rfl rfl, trivial⟩ ⟨rr, trivial⟩ rfl rfl ?_; rotate_right; rintro x rout ⟨⟨u1, hu1, rfl⟩, ⟨c, c1, c2, rfl⟩⟩; have hw1 : 0 ≤ u1 ∧ u1 ≤ 1440 := (by simp only [List.mem_cons, List.not_mem_nil, or_false] at hu1; omega); refine ⟨rfl, ?_⟩; conv => whnf) | (refine CallX.of (s64 n L hL _ ?_ ?_ u1 1440 ?_ ?_ ?_ ?_) [(1000000, 1000000)] rfl ⟨lr, lr, lr, trivial⟩ ⟨rr, trivial⟩ rfl rfl ?_; rotate_right; rintro x rout ⟨⟨u2, hv1, hv2, rfl⟩, ⟨c, c1, c2, rfl⟩⟩; refine ⟨rfl, ?_⟩; conv => whnf) | (refine CallX.of (s84 n L hL _ ?_ ?_ 4 ?_) [(1000000, 1000000)] rfl ⟨lr, lr, trivial⟩ ⟨rr, trivial⟩ rfl rfl ?_; rotate_right; rintro x rout ⟨⟨w, rfl⟩, ⟨c, c1, c2, rfl⟩⟩; refine ⟨rfl, ?_⟩; conv => whnf) | (refine br_intro ?_ ?_ <;> intro hb <;> (try simp only [brs] at hb) <;> conv => whnf) | omega | (refine And.intro ?_ ?_; ((try dsimp only); first | omega | (refine szA rfl ?_; omega) | (refine szB rfl ?_; omega) | (unfold inI64; omega) | exact rfl | (simp only [List.toList_toArray, List.length_cons, List.length_nil]; omega) | (simp only [lns] at *; omega) | decide | (unfold inI64; decide)); conv => whnf) | decide | assumption)
       · exact ⟨(c, setH s 4 u1 u1, 5), ⟨⟨by omega, by show _ ≤ cc + 10 * ((5 : Nat) : Int); omega, by omega⟩, q4⟩, by show 7 - 5 < 7 - 4; omega, (by (refine Entails.mk' [(1000000, 1000000), (3, 3), (6, 6)] rfl rfl ?_ ?_ <;> repeat' (first | exact True.intro | exact lr | exact rr | exact SV.le_int (by omega) | exact SV.le_any _ | refine And.intro ?_ ?_)); done)⟩
       · exact ⟨(c, setH s 4 u1 u2, 5), ⟨⟨by omega, by show _ ≤ cc + 10 * ((5 : Nat) : Int); omega, by omega⟩, q4⟩, by show 7 - 5 < 7 - 4; omega, (by (refine Entails.mk' [(1000000, 1000000), (3, 3), (6, 6)] rfl rfl ?_ ?_ <;> repeat' (first | exact True.intro | exact lr | exact rr | exact SV.le_int (by omega) | exact SV.le_any _ | refine And.intro ?_ ?_)); done)⟩
     · conv => whnf
       repeat' (first | (refine CallX.of (s33 n L hL _ ?_ ?_ [0, 0, 480, 600, 1440] ?_ ?_) [(1000000, 1000000)] rfl ⟨lr, SV.le_lit rfl rfl, trivial⟩ ⟨rr, trivial⟩ rfl rfl ?_; rotate_right; rintro x rout ⟨⟨u1, hu1, rfl⟩, ⟨c, c1, c2, rfl⟩⟩; have hw1 : 0 ≤ u1 ∧ u1 ≤ 1440 := (by simp only [List.mem_cons, List.not_mem_nil, or_false] at hu1; omega); refine ⟨rfl, ?_⟩; conv => whnf) | (refine CallX.of (s64 n L hL _ ?_ ?_ u1 1440 ?_ ?_ ?_ ?_) [(1000000, 1000000)] rfl ⟨lr, lr, lr, trivial⟩ ⟨rr, trivial⟩ rfl rfl ?_; rotate_right; rintro x rout ⟨⟨u2, hv1, hv2, rfl⟩, ⟨c, c1, c2, rfl⟩⟩; refine ⟨rfl, ?_⟩; conv => whnf) | (refine CallX.of (s84 n L hL _ ?_ ?_ 4 ?_) [(1000000, 1000000)] rfl ⟨lr, lr, trivial⟩ ⟨rr, trivial⟩ rfl rfl ?_; rotate_right; rintro x rout ⟨⟨w, rfl⟩, ⟨c, c1, c2, rfl⟩⟩; refine ⟨rfl, ?_⟩; conv => whnf) | (refine br_intro ?_ ?_ <;> intro hb <;> (try simp only [brs] at hb) <;> conv => whnf) | omega | (refine And.intro ?_ ?_; ((try dsimp only); first | omega | (refine szA rfl ?_; omega) | (refine szB rfl ?_; omega) | (unfold inI64; omega) | exact rfl | (simp only [List.toList_toArray, List.length_cons, List.length_nil]; omega) | (simp only [lns] at *; omega) | decide | (unfold inI64; decide)); conv => whnf) | decide | assumption)
       · exact ⟨(c, setH s 5 u1 u1, 6), ⟨⟨by omega, by show _ ≤ cc + 10 * ((6 : Nat) : Int); omega, by omega⟩, q4⟩, by show 7 - 6 < 7 - 5; omega, (by (refine Entails.mk' [(1000000, 1000000), (3, 3), (6, 6)] rfl rfl ?_ ?_ <;> repeat' (first | exact True.intro | exact lr | exact rr | exact SV.le_int (by omega) | exact SV.le_any _ | refine And.intro ?_ ?_)); done)⟩
       · exact ⟨(c, setH s 5 u1 u2, 6), ⟨⟨by omega, by show _ ≤ cc + 10 * ((6 : Nat) : Int); omega, by omega⟩, q4⟩, by show 7 - 6 < 7 - 5; omega, (by (refine Entails.mk' [(1000000, 1000000), (3, 3), (6, 6)] rfl rfl ?_ ?_ <;> repeat' (first | exact True.intro | exact lr | exact rr | exact SV.le_int (by omega) | exact SV.le_any _ | refine And.intro ?_ ?_)); done)⟩
     · conv => whnf
       repeat' (first | (refine CallX.of (s33 n L hL _ ?_ ?_ [0, 0, 480, 600, 1440] ?_ ?_) [(1000000, 1000000)] rfl ⟨lr, SV.le_lit rfl rfl, trivial⟩ ⟨rr, trivial⟩ rfl rfl ?_; rotate_right; rintro x rout ⟨⟨u1, hu1, rfl⟩, ⟨c, c1, c2, rfl⟩⟩; have hw1 : 0 ≤ u1 ∧ u1 ≤ 1440 := (by simp only [List.mem_cons, List.not_mem_nil, or_false] at hu1; omega); refine ⟨rfl, ?_⟩; conv => whnf) | (refine CallX.of (s64 n L hL _ ?_ ?_ u1 1440 ?_ ?_ ?_ ?_) [(1000000, 1000000)] rfl ⟨lr, lr, lr, trivial⟩ ⟨rr, trivial⟩ rfl rfl ?_; rotate_right; rintro x rout ⟨⟨u2, hv1, hv2, rfl⟩, ⟨c, c1, c2, rfl⟩⟩; refine ⟨rfl, ?_⟩; conv => whnf) | (refine CallX.of (s84 n L hL _ ?_ ?_ 4 ?_) [(1000000, 1000000)] rfl ⟨lr, lr, trivial⟩ ⟨rr, trivial⟩ rfl rfl ?_; rotate_right; rintro x rout ⟨⟨w, rfl⟩, ⟨c, c1, c2, rfl⟩⟩; refine ⟨rfl, ?_⟩; conv => whnf) | (refine br_intro ?_ ?_ <;> intro hb <;> (try simp only [brs] at hb) <;> conv => whnf) | omega | (refine And.intro ?_ ?_; ((try dsimp only); first | omega | (refine szA rfl ?_; omega) | (refine szB rfl ?_; omega) | (unfold inI64; omega) | exact rfl | (simp only [List.toList_toArray, List.length_cons, List.length_nil]; omega) | (simp only [lns] at *; omega) | decide | (unfold inI64; decide)); conv => whnf) | decide | assumption)
       · exact ⟨(c, setH s 6 u1 u1, 7), ⟨⟨by omega, by show _ ≤ cc + 10 * ((7 : Nat) : Int); omega, by omega⟩, q4⟩, by show 7 - 7 < 7 - 6; omega, (by (refine Entails.mk' [(1000000, 1000000), (3, 3), (6, 6)] rfl rfl ?_ ?_ <;> repeat' (first | exact True.intro | exact lr | exact rr | exact SV.le_int (by omega) | exact SV.le_any _ | refine And.intro ?_ ?_)); done)⟩
       · exact ⟨(c, setH s 6 u1 u2, 7), ⟨⟨by omega, by show _ ≤ cc + 10 * ((7 : Nat) : Int); omega, by omega⟩, q4⟩, by show 7 - 7 < 7 - 6; omega, (by (refine Entails.mk' [(1000000, 1000000), (3, 3), (6, 6)] rfl rfl ?_ ?_ <;> repeat' (first | exact True.intro | exact lr | exact rr | exact SV.le_int (by omega) | exact SV.le_any _ | refine And.intro ?_ ?_)); done)⟩
 · refine .ret _ ?_
   conv => whnf
   exact ⟨[(3, seqB 90 15 staF sta0 l), (1000000, strm n L _)], ⟨l, b, allK_le p4 (by omega), ⟨by omega, by omega⟩, rfl, rfl⟩, rr, rr, trivial⟩
theorem s221_0 : FSpec Tryz.prog 139 [.d (.int .u64 0)] [] (fun y r => (∃ m : Int, y = .d (.int .i64 m)) ∧ r = []) := by
 refine spec_of hT (C := []) Tryz.func139 rfl Tryz.call139 rfl rfl rfl ?_
 conv => whnf
 repeat' (first | (refine br_intro ?_ ?_ <;> intro hb <;> (try simp only [brs] at hb) <;> conv => whnf) | omega | (refine And.intro ?_ ?_; ((try dsimp only); first | omega | (refine szA rfl ?_; omega) | (refine szB rfl ?_; omega) | (unfold inI64; omega) | exact rfl | (simp only [List.toList_toArray, List.length_cons, List.length_nil]; omega) | (simp only [lns] at *; omega) | decide | (unfold inI64; decide)); conv => whnf) | decide | assumption)
 refine .ret _ ?_
 conv => whnf
 exact ⟨[], ⟨⟨_, rfl⟩, rfl⟩, trivial⟩
theorem s221_1 : FSpec Tryz.prog 139 [.d (.int .u64 1)] [] (fun y r => (∃ m : Int, y = .d (.int .i64 m)) ∧ r = []) := by
 refine spec_of hT (C := []) Tryz.func139 rfl Tryz.call139 rfl rfl rfl ?_
 conv => whnf
 repeat' (first | (refine br_intro ?_ ?_ <;> intro hb <;> (try simp only [brs] at hb) <;> conv => whnf) | omega | (refine And.intro ?_ ?_; ((try dsimp only); first | omega | (refine szA rfl ?_; omega) | (refine szB rfl ?_; omega) | (unfold inI64; omega) | exact rfl | (simp only [List.toList_toArray, List.length_cons, List.length_nil]; omega) | (simp only [lns] at *; omega) | decide | (unfold inI64; decide)); conv => whnf) | decide | assumption)
 refine .ret _ ?_
 conv => whnf
 exact ⟨[], ⟨⟨_, rfl⟩, rfl⟩, trivial⟩
theorem s221_2 : FSpec Tryz.prog 139 [.d (.int .u64 2)] [] (fun y r => (∃ m : Int, y = .d (.int .i64 m)) ∧ r = []) := by
 refine spec_of hT (C := []) Tryz.func139 rfl Tryz.call139 rfl rfl rfl ?_
 conv => whnf
 repeat' (first | (refine br_intro ?_ ?_ <;> intro hb <;> (try simp only [brs] at hb) <;> conv => whnf) | omega | (refine And.intro ?_ ?_; ((try dsimp only); first | omega | (refine szA rfl ?_; omega) | (refine szB rfl ?_; omega) | (unfold inI64; omega) | exact rfl | (simp only [List.toList_toArray, List.length_cons, List.length_nil]; omega) | (simp only [lns] at *; omega) | decide | (unfold inI64; decide)); conv => whnf) | decide | assumption)
 refine .ret _ ?_
 conv => whnf
 exact ⟨[], ⟨⟨_, rfl⟩, rfl⟩, trivial⟩
theorem s221_3 : FSpec Tryz.prog 139 [.d (.int .u64 3)] [] (fun y r => (∃ m : Int, y = .d (.int .i64 m)) ∧ r = []) := by
 refine spec_of hT (C := []) Tryz.func139 rfl Tryz.call139 rfl rfl rfl ?_
 conv => whnf
 repeat' (first | (refine br_intro ?_ ?_ <;> intro hb <;> (try simp only [brs] at hb) <;> conv => whnf) | omega | (refine And.intro ?_ ?_; ((try dsimp only); first | omega | (refine szA rfl ?_; omega) | (refine szB rfl ?_; omega) | (unfold inI64; omega) | exact rfl | (simp only [List.toList_toArray, List.length_cons, List.length_nil]; omega) | (simp only [lns] at *; omega) | decide | (unfold inI64; decide)); conv => whnf) | decide | assumption)
 refine .ret _ ?_
 conv => whnf
 exact ⟨[], ⟨⟨_, rfl⟩, rfl⟩, trivial⟩
theorem s221_4 : FSpec Tryz.prog 139 [.d (.int .u64 4)] [] (fun y r => (∃ m : Int, y = .d (.int .i64 m)) ∧ r = []) := by
 refine spec_of hT (C := []) Tryz.func139 rfl Tryz.call139 rfl rfl rfl ?_
 conv => whnf
 repeat' (first | (refine br_intro ?_ ?_ <;> intro hb <;> (try simp only [brs] at hb) <;> conv => whnf) | omega | (refine And.intro ?_ ?_; ((try dsimp only); first | omega | (refine szA rfl ?_; omega) | (refine szB rfl ?_; omega) | (unfold inI64; omega) | exact rfl | (simp only [List.toList_toArray, List.length_cons, List.length_nil]; omega) | (simp only [lns] at *; omega) | decide | (unfold inI64; decide)); conv => whnf) | decide | assumption)
 refine .ret _ ?_
 conv => whnf
 exact ⟨[], ⟨⟨_, rfl⟩, rfl⟩, trivial⟩
theorem s221_5 : FSpec Tryz.prog 139 [.d (.int .u64 5)] [] (fun y r => (∃ m : Int, y = .d (.int .i64 m)) ∧ r = []) := by
 refine spec_of hT (C := []) Tryz.func139 rfl Tryz.call139 rfl rfl rfl ?_
 conv => whnf
 repeat' (first | (refine br_intro ?_ ?_ <;> intro hb <;> (try simp only [brs] at hb) <;> conv => whnf) | omega | (refine And.intro ?_ ?_; ((try dsimp only); first | omega | (refine szA rfl ?_; omega) | (refine szB rfl ?_; omega) | (unfold inI64; omega) | exact rfl | (simp only [List.toList_toArray, List.length_cons, List.length_nil]; omega) | (simp only [lns] at *; omega) | decide | (unfold inI64; decide)); conv => whnf) | decide | assumption)
 refine .ret _ ?_
 conv => whnf
 exact ⟨[], ⟨⟨_, rfl⟩, rfl⟩, trivial⟩
theorem s221_6 : FSpec Tryz.prog 139 [.d (.int .u64 6)] [] (fun y r => (∃ m : Int, y = .d (.int .i64 m)) ∧ r = []) := by
 refine spec_of hT (C := []) Tryz.func139 rfl Tryz.call139 rfl rfl rfl ?_
 conv => whnf
 repeat' (first | (refine br_intro ?_ ?_ <;> intro hb <;> (try simp only [brs] at hb) <;> conv => whnf) | omega | (refine And.intro ?_ ?_; ((try dsimp only); first | omega | (refine szA rfl ?_; omega) | (refine szB rfl ?_; omega) | (unfold inI64; omega) | exact rfl | (simp only [List.toList_toArray, List.length_cons, List.length_nil]; omega) | (simp only [lns] at *; omega) | decide | (unfold inI64; decide)); conv => whnf) | decide | assumption)
 refine .ret _ ?_
 conv => whnf
 exact ⟨[], ⟨⟨_, rfl⟩, rfl⟩, trivial⟩
theorem s221_7 : FSpec Tryz.prog 139 [.d (.int .u64 7)] [] (fun y r => (∃ m : Int, y = .d (.int .i64 m)) ∧ r = []) := by
 refine spec_of hT (C := []) Tryz.func139 rfl Tryz.call139 rfl rfl rfl ?_
 conv => whnf
 repeat' (first | (refine br_intro ?_ ?_ <;> intro hb <;> (try simp only [brs] at hb) <;> conv => whnf) | omega | (refine And.intro ?_ ?_; ((try dsimp only); first | omega | (refine szA rfl ?_; omega) | (refine szB rfl ?_; omega) | (unfold inI64; omega) | exact rfl | (simp only [List.toList_toArray, List.length_cons, List.length_nil]; omega) | (simp only [lns] at *; omega) | decide | (unfold inI64; decide)); conv => whnf) | decide | assumption)
 refine .ret _ ?_
 conv => whnf
 exact ⟨[], ⟨⟨_, rfl⟩, rfl⟩, trivial⟩
theorem s221_8 : FSpec Tryz.prog 139 [.d (.int .u64 8)] [] (fun y r => (∃ m : Int, y = .d (.int .i64 m)) ∧ r = []) := by
 refine spec_of hT (C := []) Tryz.func139 rfl Tryz.call139 rfl rfl rfl ?_
 conv => whnf
 repeat' (first | (refine br_intro ?_ ?_ <;> intro hb <;> (try simp only [brs] at hb) <;> conv => whnf) | omega | (refine And.intro ?_ ?_; ((try dsimp only); first | omega | (refine szA rfl ?_; omega) | (refine szB rfl ?_; omega) | (unfold inI64; omega) | exact rfl | (simp only [List.toList_toArray, List.length_cons, List.length_nil]; omega) | (simp only [lns] at *; omega) | decide | (unfold inI64; decide)); conv => whnf) | decide | assumption)
 refine .ret _ ?_
 conv => whnf
 exact ⟨[], ⟨⟨_, rfl⟩, rfl⟩, trivial⟩
theorem s221_9 : FSpec Tryz.prog 139 [.d (.int .u64 9)] [] (fun y r => (∃ m : Int, y = .d (.int .i64 m)) ∧ r = []) := by
 refine spec_of hT (C := []) Tryz.func139 rfl Tryz.call139 rfl rfl rfl ?_
 conv => whnf
 repeat' (first | (refine br_intro ?_ ?_ <;> intro hb <;> (try simp only [brs] at hb) <;> conv => whnf) | omega | (refine And.intro ?_ ?_; ((try dsimp only); first | omega | (refine szA rfl ?_; omega) | (refine szB rfl ?_; omega) | (unfold inI64; omega) | exact rfl | (simp only [List.toList_toArray, List.length_cons, List.length_nil]; omega) | (simp only [lns] at *; omega) | decide | (unfold inI64; decide)); conv => whnf) | decide | assumption)
 refine .ret _ ?_
 conv => whnf
 exact ⟨[], ⟨⟨_, rfl⟩, rfl⟩, trivial⟩
theorem s221_10 : FSpec Tryz.prog 139 [.d (.int .u64 10)] [] (fun y r => (∃ m : Int, y = .d (.int .i64 m)) ∧ r = []) := by
 refine spec_of hT (C := []) Tryz.func139 rfl Tryz.call139 rfl rfl rfl ?_
 conv => whnf
 repeat' (first | (refine br_intro ?_ ?_ <;> intro hb <;> (try simp only [brs] at hb) <;> conv => whnf) | omega | (refine And.intro ?_ ?_; ((try dsimp only); first | omega | (refine szA rfl ?_; omega) | (refine szB rfl ?_; omega) | (unfold inI64; omega) | exact rfl | (simp only [List.toList_toArray, List.length_cons, List.length_nil]; omega) | (simp only [lns] at *; omega) | decide | (unfold inI64; decide)); conv => whnf) | decide | assumption)
 refine .ret _ ?_
 conv => whnf
 exact ⟨[], ⟨⟨_, rfl⟩, rfl⟩, trivial⟩
theorem s221_11 : FSpec Tryz.prog 139 [.d (.int .u64 11)] [] (fun y r => (∃ m : Int, y = .d (.int .i64 m)) ∧ r = []) := by
 refine spec_of hT (C := []) Tryz.func139 rfl Tryz.call139 rfl rfl rfl ?_
 conv => whnf
 repeat' (first | (refine br_intro ?_ ?_ <;> intro hb <;> (try simp only [brs] at hb) <;> conv => whnf) | omega | (refine And.intro ?_ ?_; ((try dsimp only); first | omega | (refine szA rfl ?_; omega) | (refine szB rfl ?_; omega) | (unfold inI64; omega) | exact rfl | (simp only [List.toList_toArray, List.length_cons, List.length_nil]; omega) | (simp only [lns] at *; omega) | decide | (unfold inI64; decide)); conv => whnf) | decide | assumption)
 refine .ret _ ?_
 conv => whnf
 exact ⟨[], ⟨⟨_, rfl⟩, rfl⟩, trivial⟩
theorem s221_12 : FSpec Tryz.prog 139 [.d (.int .u64 12)] [] (fun y r => (∃ m : Int, y = .d (.int .i64 m)) ∧ r = []) := by
 refine spec_of hT (C := []) Tryz.func139 rfl Tryz.call139 rfl rfl rfl ?_
 conv => whnf
 repeat' (first | (refine br_intro ?_ ?_ <;> intro hb <;> (try simp only [brs] at hb) <;> conv => whnf) | omega | (refine And.intro ?_ ?_; ((try dsimp only); first | omega | (refine szA rfl ?_; omega) | (refine szB rfl ?_; omega) | (unfold inI64; omega) | exact rfl | (simp only [List.toList_toArray, List.length_cons, List.length_nil]; omega) | (simp only [lns] at *; omega) | decide | (unfold inI64; decide)); conv => whnf) | decide | assumption)
 refine .ret _ ?_
 conv => whnf
 exact ⟨[], ⟨⟨_, rfl⟩, rfl⟩, trivial⟩
theorem s221 (n : Nat) (hn : n ≤ 12) : FSpec Tryz.prog 139 [.d (.int .u64 n)] [] (fun y r => (∃ m : Int, y = .d (.int .i64 m)) ∧ r = []) := by
 match n, hn with
 | 0, _ => exact s221_0
 | 1, _ => exact s221_1
 | 2, _ => exact s221_2
 | 3, _ => exact s221_3
 | 4, _ => exact s221_4
 | 5, _ => exact s221_5
 | 6, _ => exact s221_6
 | 7, _ => exact s221_7
 | 8, _ => exact s221_8
 | 9, _ => exact s221_9
 | 10, _ => exact s221_10
 | 11, _ => exact s221_11
 | 12, _ => exact s221_12
 | n + 13, h => omega
theorem wrap_u64 (n : Nat) (hn : n ≤ 12) : IntKind.u64.wrap n = n := by
 match n, hn with
 | 0, _ | 1, _ | 2, _ | 3, _ | 4, _ | 5, _ | 6, _ | 7, _ | 8, _ | 9, _ | 10, _ | 11, _ | 12, _ => decide
 | n + 13, h => omega
theorem sBitsLen (n : Nat) (hn : n ≤ 12) : FSpec Tryz.prog 104 [.d (.int .u64 (IntKind.u64.wrap n))] [] (fun y r => (∃ m : Int, y = .d (.int .i64 m)) ∧ r = []) := by
 rw [wrap_u64 n hn]
 refine spec_of hT (C := []) Tryz.func104 rfl Tryz.call104 rfl rfl rfl ?_
 conv => whnf
 repeat' (first | (refine br_intro ?_ ?_ <;> intro hb <;> (try simp only [brs] at hb) <;> conv => whnf) | omega | (refine And.intro ?_ ?_; ((try dsimp only); first | omega | (refine szA rfl ?_; omega) | (refine szB rfl ?_; omega) | (unfold inI64; omega) | exact rfl | (simp only [List.toList_toArray, List.length_cons, List.length_nil]; omega) | (simp only [lns] at *; omega) | decide | (unfold inI64; decide)); conv => whnf) | decide | assumption)
 refine CallX.of (s221 n hn) [] rfl ⟨lr, trivial⟩ trivial rfl rfl ?_
 rintro x rout ⟨⟨m, rfl⟩, rfl⟩
 refine ⟨rfl, ?_⟩
 conv => whnf
 refine .ret _ ?_
 conv => whnf
 exact ⟨[], ⟨⟨_, rfl⟩, rfl⟩, trivial⟩
def oUFlN153_4 : List (Nat × List Nat) := [(0, []), (1, [0]), (2, []), (3, []), (4, []), (5, [4]), (6, [4, 5]), (7, [4]), (8, [4]), (9, [4, 5, 6, 7, 8]), (10, [4, 5, 6, 7, 8, 9]), (11, [4, 5, 6, 7, 8, 9]), (12, [4, 5, 6, 7, 8]), (13, [4, 5, 6, 7, 8]), (14, []), (15, []), (16, [])]
def oUFlN153_6 : List (Nat × List Nat) := [(0, []), (1, [0]), (2, [0, 1]), (3, [0, 1, 2]), (4, [0, 1, 2]), (5, [0, 1, 2, 3, 4]), (6, [0, 1, 2, 3, 4, 5]), (7, [0, 1, 2, 3, 4, 5]), (8, [0, 1, 2, 3, 4]), (9, [0, 1, 2, 3, 4]), (10, [0, 1, 2, 3, 4, 5, 6, 7, 8, 9]), (11, [0, 1, 2, 3, 4, 5, 6, 7, 8, 9, 10]), (12, [0, 1, 2, 3, 4, 5, 6, 7, 8, 9]), (13, [0, 1, 2, 3, 4, 5, 6, 7, 8, 9]), (14, [2, 3, 4]), (15, [2, 3, 4]), (16, []), (17, [])]
def oUFlN140_17 : List (Nat × List Nat) := [(0, []), (1, []), (2, []), (3, []), (4, [3]), (5, [3, 4]), (6, [3, 4]), (7, [3]), (8, [3]), (9, [3, 4, 5, 6, 7, 8]), (10, [3, 4, 5, 6, 7, 8, 9]), (11, [3, 4, 5, 6, 7, 8]), (12, [3, 4, 5, 6, 7, 8]), (13, []), (14, []), (15, []), (16, [])]
abbrev pltB (l : List Plt) : Res := seqB 96 3 pltF plt0 l
abbrev staB (l : List Sta) : Res := seqB 90 15 staF sta0 l
abbrev vehB (l : List Veh) : Res := seqB 93 2 vehF veh0 l
theorem z137 (l : List Plt) (hl : l.length ≤ 2^20) : FSpec Tryz.prog 107 [.buf 1000001] [(1000001, pltB l)] (fun y r => (y = .d .nilsl ∧ l = [] ∧ r = [(1000001, pltB l)]) ∨ (y = .buf 7 ∧ r = [(7, pltB l), (1000001, pltB l)])) := by
 refine spec_of hT (C := [5]) Tryz.func107 rfl Tryz.call107 rfl rfl rfl ?_
 conv => whnf
 rintro b hbn
 conv => whnf
 repeat' (first | (refine br_intro ?_ ?_ <;> intro hb <;> (try simp only [brs] at hb) <;> conv => whnf) | omega | (refine And.intro ?_ ?_; ((try dsimp only); first | omega | (refine szA rfl ?_; omega) | (refine szB rfl ?_; omega) | (unfold inI64; omega) | exact rfl | (simp only [List.toList_toArray, List.length_cons, List.length_nil]; omega) | (simp only [lns] at *; omega) | decide | (unfold inI64; decide)); conv => whnf) | decide | assumption)
 · have : l = [] := List.eq_nil_of_length_eq_zero (hbn (by assumption))
   refine .ret _ ?_
   conv => whnf
   exact ⟨_, .inl ⟨rfl, this, rfl⟩, rr, trivial⟩
 · refine .ret _ ?_
   conv => whnf
   refine ⟨_, .inr ⟨rfl, rfl⟩, Res.le_buf (by simp) (fun i hi => ?_), rr, trivial⟩
   rw [appGet_ge (by omega)]; rfl
def rfCmp (p q : Plt) : Int := if p.frm ≠ q.frm then p.frm - q.frm else cmpS (p.veh ++ [32] ++ p.plt) (q.veh ++ [32] ++ q.plt)
theorem z139 (p q : Plt) (hp : pltK p) (hq : pltK q) : FSpec Tryz.prog 109 [.agg ((pltF p).map .d), .agg ((pltF q).map .d)] [] (fun y r => y = .d (.int .i64 (rfCmp p q)) ∧ r = []) := by
 have h1 := hp.2.1
 have h2 := hp.2.2
 have h3 := hq.2.1
 have h4 := hq.2.2
 have h5 := hp.1
 have h6 := hq.1
 refine spec_of hT (C := []) Tryz.func109 rfl Tryz.call109 rfl rfl rfl ?_
 conv => whnf
 repeat' (first | (refine CallX.exact (s190 _ _) rfl rfl ?_; rotate_right; conv => whnf) | (refine br_intro ?_ ?_ <;> intro hb <;> (try simp only [brs] at hb) <;> conv => whnf) | omega | (refine And.intro ?_ ?_; ((try dsimp only); first | omega | (refine szA rfl ?_; omega) | (refine szB rfl ?_; omega) | (unfold inI64; omega) | exact rfl | (simp only [List.toList_toArray, List.length_cons, List.length_nil]; omega) | (simp only [lns] at *; omega) | decide | (unfold inI64; decide)); conv => whnf) | decide | assumption)
 all_goals
  refine .ret _ ?_
  conv => whnf
  refine ⟨[], ⟨?_, rfl⟩, trivial⟩
  conv => lhs; whnf
  congr 2
  unfold rfCmp
  first | (rw [if_pos (by simpa using hb)]; done) | (rw [if_neg (by simpa using hb)]; done)
theorem swap_midPl {A B : List Plt} {x y : Plt} {D b : List Plt} {j : Nat} (hb : (y :: A).reverse ++ [x] ++ B ++ D = b) (hj : j = A.length + 1) :
 b.getD j plt0 = x ∧ b.getD (j - 1) plt0 = y ∧ (b.set j y).set (j - 1) x = A.reverse ++ [x] ++ (y :: B) ++ D := by
 subst hj
 refine ⟨?_, ?_, ?_⟩
 · rw [← hb, show (y :: A).reverse ++ [x] ++ B ++ D = (y :: A).reverse ++ x :: (B ++ D) by simp]
   exact getD_mid _ _ _ _ (by simp)
 · rw [← hb, show (y :: A).reverse ++ [x] ++ B ++ D = A.reverse ++ y :: ([x] ++ B ++ D) by simp]
   exact getD_mid _ _ _ _ (by simp)
 · rw [← hb]
   have := swap_lemma A.reverse (B ++ D) x y
   simp only [List.length_reverse] at this
   simp only [List.reverse_cons, List.append_assoc, List.singleton_append, List.cons_append, List.nil_append, Nat.add_sub_cancel] at this ⊢
   exact this
theorem sInsPl (g : FuncId) (cmp : Plt → Plt → Int) (l : List Plt) (hl : l.length ≤ 2^40)
 (hcmp : ∀ p q, p ∈ l → q ∈ l → FSpec Tryz.prog g [.agg ((pltF p).map .d), .agg ((pltF q).map .d)] [] (fun y r => y = .d (.int .i64 (cmp p q)) ∧ r = [])) :
 FSpec Tryz.prog 153 [.buf 1000001, .d (.int .i64 0), .d (.int .i64 l.length), .fn g []] [(1000001, seqB 96 3 pltF plt0 l)]
  (fun y r => y = .tup [] ∧ r = [(1000001, seqB 96 3 pltF plt0 (isort cmp l))]) := by
 refine spec_of hT (C := []) Tryz.func153 rfl Tryz.call153 rfl rfl rfl ?_
 conv => whnf
 repeat' (first | (refine br_intro ?_ ?_ <;> intro hb <;> (try simp only [brs] at hb) <;> conv => whnf) | (refine RegX.rule (id := 4) hT rfl [] oUFlN153_4 (by decide +kernel) ?_; conv => whnf) | (refine RegX.rule (id := 6) hT rfl [] oUFlN153_6 (by decide +kernel) ?_; conv => whnf) | omega | (refine And.intro ?_ ?_; ((try dsimp only); first | omega | (refine szA rfl ?_; omega) | (refine szB rfl ?_; omega) | (unfold inI64; omega) | exact rfl | (simp only [List.toList_toArray, List.length_cons, List.length_nil]; omega) | (simp only [lns] at *; omega) | decide | (unfold inI64; decide)); conv => whnf) | decide | assumption)
 refine LoopX.rule hT (C := []) (ι := Nat × List Plt) (fun (i, c) => 1 ≤ i ∧ (i ≤ l.length ∨ i = 1) ∧ c = (isortR cmp (l.take i)).reverse ++ l.drop i)
  (fun (i, c) => mkSt [(0, .buf 1000001), (1, .d (.int .i64 0)), (2, .d (.int .i64 l.length)), (3, .fn g []), (8, .d (.int .i64 i))] [(1000001, seqB 96 3 pltF plt0 c)])
  (fun (i, _) => l.length - i) (1, l) ⟨by simp, by simp, by cases l with | nil => rfl | cons x l => simp [isortR, insR]⟩ (by (refine Entails.mk' [(1000001, 1000001)] rfl rfl ?_ ?_ <;> repeat' (first | exact True.intro | exact lr | exact rr | exact SV.le_int (by omega) | exact SV.le_any _ | refine And.intro ?_ ?_)); done) ?_
 rintro ⟨i, c⟩ ⟨p1, p2, p3⟩
 conv => whnf
 repeat' (first | (refine br_intro ?_ ?_ <;> intro hb <;> (try simp only [brs] at hb) <;> conv => whnf) | (refine RegX.rule (id := 4) hT rfl [] oUFlN153_4 (by decide +kernel) ?_; conv => whnf) | (refine RegX.rule (id := 6) hT rfl [] oUFlN153_6 (by decide +kernel) ?_; conv => whnf) | omega | (refine And.intro ?_ ?_; ((try dsimp only); first | omega | (refine szA rfl ?_; omega) | (refine szB rfl ?_; omega) | (unfold inI64; omega) | exact rfl | (simp only [List.toList_toArray, List.length_cons, List.length_nil]; omega) | (simp only [lns] at *; omega) | decide | (unfold inI64; decide)); conv => whnf) | decide | assumption)
 · have hi : i < l.length := by omega
   have hx : l[i] ∈ l := List.getElem_mem hi
   have hmem : ∀ y ∈ isortR cmp (l.take i), y ∈ l := fun y hy => List.mem_of_mem_take ((isortR_mem cmp _).1 hy)
   have hlr : (isortR cmp (l.take i)).length = i := by rw [isortR_length, List.length_take]; omega
   have hc : c = (isortR cmp (l.take i)).reverse ++ [l[i]] ++ [] ++ l.drop (i + 1) := by rw [p3, List.drop_eq_getElem_cons hi]; simp
   refine LoopX.rule hT (C := []) (ι := List Plt × List Plt × List Plt) (fun (A, B, b) => insR cmp l[i] (isortR cmp (l.take i)) = B.reverse ++ insR cmp l[i] A ∧ A.length + B.length = i ∧ (∀ y ∈ A, y ∈ l) ∧ A.reverse ++ [l[i]] ++ B ++ l.drop (i + 1) = b)
    (fun (A, B, b) => mkSt [(0, .buf 1000001), (1, .d (.int .i64 0)), (2, .d (.int .i64 l.length)), (3, .fn g []), (8, .d (.int .i64 i)), (9, .d (.int .i64 A.length))] [(1000001, seqB 96 3 pltF plt0 b)])
    (fun (A, _, _) => A.length) (isortR cmp (l.take i), [], c) ⟨by simp, by simpa using hlr, hmem, hc.symm⟩ ?_ ?_
   · exact Entails.mk' [(1000001, 1000001)] rfl rfl ⟨lr, lr, lr, lr, lr, SV.le_int (by omega), trivial⟩ ⟨rr, trivial⟩
   rintro ⟨A, B, b⟩ ⟨q1, q2, q3, hbd⟩
   have hlen : b.length = l.length := by rw [← hbd]; simp; omega
   have hfin : A = [] ∨ (∃ y A', A = y :: A' ∧ 0 ≤ cmp l[i] y) → isortR cmp (l.take (i + 1)) = B.reverse ++ l[i] :: A ∧ b = (isortR cmp (l.take (i + 1))).reverse ++ l.drop (i + 1) := fun h => by
    have e : isortR cmp (l.take (i + 1)) = B.reverse ++ l[i] :: A := by
     rw [take_snoc hi, isortR_snoc, q1]
     rcases h with rfl | ⟨y, A', rfl, h⟩
     · rfl
     · rw [insR, if_neg (by omega)]
    exact ⟨e, by rw [e, ← hbd]; simp⟩
   conv => whnf
   repeat' (first | (refine br_intro ?_ ?_ <;> intro hb <;> (try simp only [brs] at hb) <;> conv => whnf) | (refine RegX.rule (id := 4) hT rfl [] oUFlN153_4 (by decide +kernel) ?_; conv => whnf) | (refine RegX.rule (id := 6) hT rfl [] oUFlN153_6 (by decide +kernel) ?_; conv => whnf) | omega | (refine And.intro ?_ ?_; ((try dsimp only); first | omega | (refine szA rfl ?_; omega) | (refine szB rfl ?_; omega) | (unfold inI64; omega) | exact rfl | (simp only [List.toList_toArray, List.length_cons, List.length_nil]; omega) | (simp only [lns] at *; omega) | decide | (unfold inI64; decide)); conv => whnf) | decide | assumption)
   · cases A with
     | nil => simp at hb
     | cons y A =>
     obtain ⟨g1, g2, g3⟩ := swap_midPl (j := (((y :: A).length : Int)).toNat) hbd (by simp)
     have ej : ((((y :: A).length : Int)) - 1).toNat = (((y :: A).length : Int)).toNat - 1 := by omega
     refine CallX.of (hcmp l[i] y hx (q3 y (by simp))) [] rfl ⟨by rw [← g1]; exact lr, by rw [← g2, ← ej]; exact lr, trivial⟩ trivial rfl rfl ?_
     rintro x rout ⟨rfl, rfl⟩
     refine ⟨rfl, ?_⟩
     conv => whnf
     repeat' (first | (refine br_intro ?_ ?_ <;> intro hb <;> (try simp only [brs] at hb) <;> conv => whnf) | (refine RegX.rule (id := 4) hT rfl [] oUFlN153_4 (by decide +kernel) ?_; conv => whnf) | (refine RegX.rule (id := 6) hT rfl [] oUFlN153_6 (by decide +kernel) ?_; conv => whnf) | omega | (refine And.intro ?_ ?_; ((try dsimp only); first | omega | (refine szA rfl ?_; omega) | (refine szB rfl ?_; omega) | (unfold inI64; omega) | exact rfl | (simp only [List.toList_toArray, List.length_cons, List.length_nil]; omega) | (simp only [lns] at *; omega) | decide | (unfold inI64; decide)); conv => whnf) | decide | assumption)
     · refine ⟨(A, y :: B, _), ⟨by rw [q1]; simp [insR, hb], by simp only [List.length_cons] at q2 ⊢; omega, fun z hz => q3 z (by simp [hz]), ?_⟩, by show A.length < (y :: A).length; simp, Entails.mk' [(1000001, 1000001)] rfl rfl ⟨lr, lr, lr, lr, lr, SV.le_int (by simp only [List.length_cons]; omega), trivial⟩ ⟨Res.le_put2 (x := b.getD ((((y :: A).length : Int)) - 1).toNat plt0) (y := b.getD (((y :: A).length : Int)).toNat plt0) (fun _ => rfl) (fun _ => rfl), trivial⟩⟩
       rw [← g3, ej, g1, g2]
     · obtain ⟨_, h2⟩ := hfin (.inr ⟨y, A, rfl, hb⟩)
       exact ⟨(i + 1, b), ⟨by omega, by omega, h2⟩, by show l.length - (i + 1) < l.length - i; omega, (by (refine Entails.mk' [(1000001, 1000001)] rfl rfl ?_ ?_ <;> repeat' (first | exact True.intro | exact lr | exact rr | exact SV.le_int (by omega) | exact SV.le_any _ | refine And.intro ?_ ?_)); done)⟩
   · have hA : A = [] := List.length_eq_zero_iff.1 (by omega)
     obtain ⟨_, h2⟩ := hfin (.inl hA)
     exact ⟨(i + 1, b), ⟨by omega, by omega, h2⟩, by show l.length - (i + 1) < l.length - i; omega, (by (refine Entails.mk' [(1000001, 1000001)] rfl rfl ?_ ?_ <;> repeat' (first | exact True.intro | exact lr | exact rr | exact SV.le_int (by omega) | exact SV.le_any _ | refine And.intro ?_ ?_)); done)⟩
 · refine .ret _ ?_
   conv => whnf
   have e1 : c = isort cmp l := by
    rw [p3, List.take_of_length_le (by omega), List.drop_eq_nil_iff.2 (by omega), List.append_nil]; rfl
   subst e1
   exact ⟨_, ⟨rfl, rfl⟩, rr, trivial⟩
theorem sPdqPl (g : FuncId) (cmp : Plt → Plt → Int) (l : List Plt) (hl : l.length ≤ 12) (lim : Int)
 (hcmp : ∀ p q, p ∈ l → q ∈ l → FSpec Tryz.prog g [.agg ((pltF p).map .d), .agg ((pltF q).map .d)] [] (fun y r => y = .d (.int .i64 (cmp p q)) ∧ r = [])) :
 FSpec Tryz.prog 140 [.buf 1000001, .d (.int .i64 0), .d (.int .i64 l.length), .d (.int .i64 lim), .fn g []] [(1000001, seqB 96 3 pltF plt0 l)]
  (fun y r => y = .tup [] ∧ r = [(1000001, seqB 96 3 pltF plt0 (isort cmp l))]) := by
 refine spec_of hT (C := []) Tryz.func140 rfl Tryz.call140 rfl rfl rfl ?_
 conv => whnf
 refine LoopX.unroll hT (C := []) (fun _ _ h => h) (fun _ h => h) ?_
 conv => whnf
 repeat' (first | (refine br_intro ?_ ?_ <;> intro hb <;> (try simp only [brs] at hb) <;> conv => whnf) | (refine RegX.rule (id := 17) hT rfl [] oUFlN140_17 (by decide +kernel) ?_; conv => whnf) | omega | (refine And.intro ?_ ?_; ((try dsimp only); first | omega | (refine szA rfl ?_; omega) | (refine szB rfl ?_; omega) | (unfold inI64; omega) | exact rfl | (simp only [List.toList_toArray, List.length_cons, List.length_nil]; omega) | (simp only [lns] at *; omega) | decide | (unfold inI64; decide)); conv => whnf) | decide | assumption)
 refine CallX.of (sInsPl g cmp l (by omega) hcmp) [(1000001, 1000001)] rfl ⟨lr, lr, lr, lr, trivial⟩ ⟨rr, trivial⟩ rfl rfl ?_
 rintro x rout ⟨rfl, rfl⟩
 refine ⟨rfl, ?_⟩
 conv => whnf
 refine .ret _ ?_
 conv => whnf
 exact ⟨_, ⟨rfl, rfl⟩, rr, trivial⟩
theorem sSortPl (g : FuncId) (cmp : Plt → Plt → Int) (l : List Plt) (hl : l.length ≤ 12)
 (hcmp : ∀ p q, p ∈ l → q ∈ l → FSpec Tryz.prog g [.agg ((pltF p).map .d), .agg ((pltF q).map .d)] [] (fun y r => y = .d (.int .i64 (cmp p q)) ∧ r = [])) :
 FSpec Tryz.prog 108 [.buf 1000001, .fn g []] [(1000001, seqB 96 3 pltF plt0 l)]
  (fun y r => y = .tup [] ∧ r = [(1000001, seqB 96 3 pltF plt0 (isort cmp l))]) := by
 refine spec_of hT (C := []) Tryz.func108 rfl Tryz.call108 rfl rfl rfl ?_
 conv => whnf
 repeat' (first | (refine br_intro ?_ ?_ <;> intro hb <;> (try simp only [brs] at hb) <;> conv => whnf) | omega | (refine And.intro ?_ ?_; ((try dsimp only); first | omega | (refine szA rfl ?_; omega) | (refine szB rfl ?_; omega) | (unfold inI64; omega) | exact rfl | (simp only [List.toList_toArray, List.length_cons, List.length_nil]; omega) | (simp only [lns] at *; omega) | decide | (unfold inI64; decide)); conv => whnf) | decide | assumption)
 refine CallX.of (sBitsLen l.length hl) [] rfl ⟨lr, trivial⟩ trivial rfl rfl ?_
 rintro x rout ⟨⟨lim, rfl⟩, rfl⟩
 refine ⟨rfl, ?_⟩
 conv => whnf
 repeat' (first | (refine br_intro ?_ ?_ <;> intro hb <;> (try simp only [brs] at hb) <;> conv => whnf) | omega | (refine And.intro ?_ ?_; ((try dsimp only); first | omega | (refine szA rfl ?_; omega) | (refine szB rfl ?_; omega) | (unfold inI64; omega) | exact rfl | (simp only [List.toList_toArray, List.length_cons, List.length_nil]; omega) | (simp only [lns] at *; omega) | decide | (unfold inI64; decide)); conv => whnf) | decide | assumption)
 refine CallX.of (sPdqPl g cmp l hl lim hcmp) [(1000001, 1000001)] rfl ⟨lr, lr, lr, lr, lr, trivial⟩ ⟨rr, trivial⟩ rfl rfl ?_
 rintro x rout ⟨rfl, rfl⟩
 refine ⟨rfl, ?_⟩
 conv => whnf
 refine .ret _ ?_
 conv => whnf
 exact ⟨_, ⟨rfl, rfl⟩, rr, trivial⟩
theorem lookL_all {P : Res → Prop} : ∀ {l : List (Nat × Res)}, (∀ p ∈ l, P p.2) → ∀ c q, lookL l c = some q → P q := by
 intro l
 induction l with
 | nil => intro _ c q h; cases h
 | cons p l ih =>
   intro hp c q h
   simp only [lookL] at h
   by_cases e : c = p.1
   · subst e; simp at h; subst h; exact hp p (by simp)
   · rw [nbeq_ne e] at h; exact ih (fun x hx => hp x (by simp [hx])) c q h
theorem flat_pl (l : List Plt) : (pltB l).flat := fun _ _ => rfl
theorem flat_ve (l : List Veh) : (vehB l).flat := fun _ _ => rfl
theorem z21l (f : Flt) (hk : fltOk f) : FSpec Tryz.prog 46 [.agg [.buf 1, .d (clss f.cls), .buf 3, .buf 4]] [(1, staB f.sta), (3, vehB f.veh), (4, pltB f.plt)]
 (fun x r => x = .d (.int .i64 (fltE f)) ∧ r = [(1, staB f.sta), (3, vehB f.veh), (4, pltB f.plt)]) := by
 have h1 := FSpec.lend (args := [.agg [.d (stas f.sta), .d (clss f.cls), .d (vehs f.veh), .buf 4]]) 4 96 3 f.plt.length (rowF pltF plt0 f.plt) (z21 f hk) rfl (fun c r q => nomatch q) rfl
  (fun x r h => by obtain ⟨rfl, rfl⟩ := h; exact ⟨rfl, fun c q e => (nomatch e), rfl⟩)
 have h2 := FSpec.lend (args := [.agg [.d (stas f.sta), .d (clss f.cls), .buf 3, .buf 4]]) 3 93 2 f.veh.length (rowF vehF veh0 f.veh) h1 rfl
  (lookL_all (P := Res.isBuf) (fun p hp => by rw [List.mem_singleton] at hp; subst hp; exact trivial)) rfl
  (fun x r h => by obtain ⟨r0, ⟨rfl, rfl⟩, rfl⟩ := h; exact ⟨rfl, lookL_all (P := Res.flat) (fun p hp => by rw [List.mem_singleton] at hp; subst hp; exact flat_pl _), rfl⟩)
 have h3 := FSpec.lend (args := [.agg [.buf 1, .d (clss f.cls), .buf 3, .buf 4]]) 1 90 15 f.sta.length (rowF staF sta0 f.sta) h2 rfl
  (lookL_all (P := Res.isBuf) (fun p hp => by simp only [List.mem_cons, List.not_mem_nil, or_false] at hp; rcases hp with rfl | rfl <;> exact trivial)) rfl
  (fun x r h => by
    obtain ⟨r1, ⟨r0, ⟨rfl, rfl⟩, rfl⟩, rfl⟩ := h
    exact ⟨rfl, lookL_all (P := Res.flat) (fun p hp => by simp only [List.mem_cons, List.not_mem_nil, or_false] at hp; rcases hp with rfl | rfl; exact flat_ve _; exact flat_pl _), rfl⟩)
 exact h3.mono (fun x r h => by obtain ⟨r2, ⟨r1, ⟨r0, ⟨rfl, rfl⟩, rfl⟩, rfl⟩, rfl⟩ := h; exact ⟨rfl, rfl⟩)
def oUFlO59_8 : List (Nat × List Nat) := [(0, []), (1, []), (2, [0, 1]), (3, [0, 1, 2]), (4, [0, 1, 2]), (5, [0, 1, 2, 3, 4]), (6, [0, 1, 2, 3, 4, 5]), (7, [0, 1, 2, 3, 4, 5]), (8, [0, 1, 2, 3, 4, 5]), (9, [0, 1, 2, 3, 4]), (10, [0, 1, 2]), (11, [0, 1, 2]), (12, [0, 1, 2]), (13, [0, 1]), (14, [0, 1]), (15, []), (16, []), (17, [])]
def oUFlO59_13 : List (Nat × List Nat) := [(0, []), (1, [0]), (3, [0, 1]), (4, [0, 1]), (5, [0, 1, 3, 4]), (6, [0, 1, 3, 4, 5]), (7, [0, 1, 3, 4, 5]), (8, [0, 1, 3, 4, 5]), (13, [0, 1, 3, 4, 5, 6, 7, 8]), (14, [0, 1, 3, 4, 5, 6, 7, 8, 13]), (17, [0, 1, 3, 4, 5, 6, 7, 8, 13, 14]), (2, [3, 4, 5, 6, 7, 8, 13, 14, 17]), (9, [3, 4, 13, 14, 17]), (10, [13, 14, 17]), (11, [13, 14, 17]), (12, [13, 14, 17]), (15, [3, 4, 17, 10, 11, 12]), (16, [17]), (18, [])]
def oUFlO59_14 : List (Nat × List Nat) := [(0, []), (1, []), (3, [0, 1]), (4, [0, 1]), (2, [3, 4]), (5, []), (6, [])]
def v4 : List (List UInt8) := [[118, 49], [118, 50], [118, 51], [118, 52]]
def rfC (c : List Cls) : Res := .cells 31 [.buf 10, .d (clss c), .buf 20, .buf 30]
def rfC0 (c : List Cls) : Res := .cells 31 [.buf 10, .d (clss c), .buf 20, .d .nilsl]
def nlC : Res := .cells 31 [.d .nilsl, .d .nilsl, .d .nilsl, .d .nilsl]
def fltB (st : List Sta) (c : List Cls) (vs : List Veh) (ps : List Plt) : Prop := allK staK 3 st ∧ (c.length = 4 ∧ ∀ x ∈ c, clsK x) ∧ allK vehK 4 vs ∧ allK pltK 5 ps
theorem LoopX.shareX {α : Type} {P : Program} {c : Code} {Q : Exit → St → Prop} {G : Prop} (σ : α → St) (pre : α → Prop) (main : (∀ a, pre a → LoopX P c Q (σ a)) → G) (tail : ∀ a, pre a → LoopX P c Q (σ a)) : G := main tail
def sta1 : List Sta := [⟨[115, 49], fun _ => 0⟩]
set_option maxHeartbeats 4000000 in
theorem sRFlt (n : Nat) (L : Nat → Int) (hL : Rok n L) (a : Int) (h0 : 0 ≤ a) (ha : a ≤ 2^35) :
 FSpec Tryz.prog 59 [.ptr 1000000 0] [(1000000, strm n L a)] (fun y r => ∃ st cs vs ps, ∃ b, fltB st cs vs ps ∧ (a ≤ b ∧ b ≤ a + 400) ∧ y = .agg [.buf 10, .d (clss cs), .buf 20, .buf 30] ∧ r = [(10, staB st), (20, vehB vs), (30, pltB ps), (1000000, strm n L b)]) := by
 refine spec_of hT (C := [19]) Tryz.func59 rfl Tryz.call59 rfl rfl rfl ?_
 conv => whnf
 refine CallX.of (sStas n L hL a h0 (by omega)) [(1000000, 1000000), (3, 10)] rfl ⟨lr, trivial⟩ ⟨rr, trivial⟩ rfl rfl ?_
 rintro x rout ⟨st, b1, hst, ⟨b1a, b1b⟩, rfl, rfl⟩
 refine ⟨rfl, ?_⟩
 conv => whnf
 refine CallX.of (sClss n L hL b1 (by omega) (by omega)) [(1000000, 1000000), (9, 12)] rfl ⟨lr, trivial⟩ ⟨rr, trivial⟩ rfl rfl ?_
 rintro x rout ⟨cs, b2, hc, ⟨b2a, b2b⟩, rfl, rfl⟩
 refine ⟨rfl, ?_⟩
 conv => whnf
 refine' LoopX.shareX (P := Tryz.prog) (α := List Sta) (fun st => mkSt [(0, .ptr 1000000 0), (2, .ptr 2 0), (3, .ptr 3 0), (21, .d (strs v4)), (22, .d (.int .i64 4)), (23, .d (.int .i64 0))] [(1000000, strm n L b2), (2, nlC), (3, rfC0 cs), (10, staB st), (20, vehB [])]) (fun st => allK staK 3 st) ?main ?tail
 case main =>
  intro tail
  repeat' (first | (refine br_intro ?_ ?_ <;> intro hb <;> (try simp only [brs] at hb) <;> conv => whnf) | (refine RegX.rule (id := 8) hT rfl [] oUFlO59_8 (by decide +kernel) ?_; conv => whnf) | (refine RegX.rule (id := 13) hT rfl [] oUFlO59_13 (by decide +kernel) ?_; conv => whnf) | (refine RegX.rule (id := 14) hT rfl [] oUFlO59_14 (by decide +kernel) ?_; conv => whnf) | omega | (refine And.intro ?_ ?_; ((try dsimp only); first | omega | (refine szA rfl ?_; omega) | (refine szB rfl ?_; omega) | (unfold inI64; omega) | exact rfl | (simp only [List.toList_toArray, List.length_cons, List.length_nil]; omega) | (simp only [lns] at *; omega) | decide | (unfold inI64; decide)); conv => whnf) | decide | assumption)
  · refine LoopX.freeze 12 123 2 _ _ rfl ?_
    refine LoopX.ent ?_ (tail sta1 ⟨by decide, by intro x hx; simp only [sta1, List.mem_singleton] at hx; subst hx; show _ ≤ 8; decide⟩)
    refine Entails.trans (Entails.froCell 3 12 2 _ 1 _ rfl rfl rfl) ?_
    refine Entails.trans (Entails.nilCell 3 20 93 2 2 (rowF vehF veh0 []) rfl rfl rfl (by decide) rfl) ?_
    exact (Entails.mk' [(1000000, 1000000), (2, 2), (3, 3), (10, 19), (20, 20)] rfl rfl ⟨lr, lr, lr, SV.le_lit rfl rfl, lr, lr, trivial⟩ ⟨rr, rr, Res.le_cellsL ⟨lr, lr, lr, lr, trivial⟩, Res.le_lit rfl rfl, rr, trivial⟩)
  · refine LoopX.freeze 12 123 2 _ _ rfl ?_
    refine LoopX.ent ?_ (tail st hst)
    refine Entails.trans (Entails.froCell 3 12 2 _ 1 _ rfl rfl rfl) ?_
    refine Entails.trans (Entails.nilCell 3 20 93 2 2 (rowF vehF veh0 []) rfl rfl rfl (by decide) rfl) ?_
    exact (Entails.mk' [(1000000, 1000000), (2, 2), (3, 3), (10, 10), (20, 20)] rfl rfl ⟨lr, lr, lr, SV.le_lit rfl rfl, lr, lr, trivial⟩ ⟨rr, rr, Res.le_cellsL ⟨lr, lr, lr, lr, trivial⟩, rr, rr, trivial⟩)
 clear hst st
 intro st hst
 refine LoopX.rule hT (C := []) (ι := Int × List Veh × Nat) (fun (b, vs, i) => (b2 ≤ b ∧ b ≤ b2 + 3 * i ∧ i ≤ 4) ∧ allK vehK i vs)
  (fun (b, vs, i) => mkSt [(0, .ptr 1000000 0), (2, .ptr 2 0), (3, .ptr 3 0), (21, .d (strs v4)), (22, .d (.int .i64 4)), (23, .d (.int .i64 i))] [(1000000, strm n L b), (2, nlC), (3, rfC0 cs), (10, staB st), (20, vehB vs)])
  (fun (_, _, i) => 4 - i) (b2, [], 0) ⟨⟨by simp, by simp, by simp⟩, ⟨by simp, by simp⟩⟩ (by (refine Entails.mk' [(1000000, 1000000), (2, 2), (3, 3), (10, 10), (20, 20)] rfl rfl ?_ ?_ <;> repeat' (first | exact True.intro | exact lr | exact rr | exact SV.le_int (by omega) | exact SV.le_any _ | refine And.intro ?_ ?_)); done) ?_
 rintro ⟨b, vs, i⟩ ⟨⟨p1, p2, p3⟩, p4⟩
 have p1 : b2 ≤ b := p1
 have p2 : b ≤ b2 + 3 * i := p2
 have p3 : i ≤ 4 := p3
 have p4 : allK vehK i vs := p4
 have hl1 : vs.length ≤ i := p4.1
 have hc4 := hc.1
 have hv4 : v4.length = 4 := rfl
 have e1 : (i : Int).toNat = i := Int.toNat_natCast i
 rcases Nat.lt_or_ge i 4 with hi | hi
 · conv => whnf
   repeat' (first | (refine CallX.of (s84 n L hL _ ?_ ?_ 6 ?_) [(1000000, 1000000)] rfl ⟨lr, lr, trivial⟩ ⟨rr, trivial⟩ rfl rfl ?_; rotate_right; rintro x rout ⟨⟨w, rfl⟩, ⟨c, c1, c2, rfl⟩⟩; refine ⟨rfl, ?_⟩; conv => whnf) | (refine CallX.of (s86 n L hL _ ?_ ?_ _ ?_) [(1000000, 1000000)] rfl ⟨lr, lr, trivial⟩ ⟨rr, trivial⟩ rfl rfl ?_; rotate_right; rintro x rout ⟨⟨j, hj1, hj2, hj3, rfl⟩, ⟨c, c1, c2, rfl⟩⟩; refine ⟨rfl, ?_⟩; conv => whnf) | (refine br_intro ?_ ?_ <;> intro hb <;> (try simp only [brs] at hb) <;> conv => whnf) | (refine RegX.rule (id := 8) hT rfl [] oUFlO59_8 (by decide +kernel) ?_; conv => whnf) | (refine RegX.rule (id := 13) hT rfl [] oUFlO59_13 (by decide +kernel) ?_; conv => whnf) | (refine RegX.rule (id := 14) hT rfl [] oUFlO59_14 (by decide +kernel) ?_; conv => whnf) | omega | (refine And.intro ?_ ?_; ((try dsimp only); first | omega | (refine szA rfl ?_; omega) | (refine szB rfl ?_; omega) | (unfold inI64; omega) | exact rfl | (simp only [List.toList_toArray, List.length_cons, List.length_nil]; omega) | (simp only [lns] at *; omega) | decide | (unfold inI64; decide)); conv => whnf) | decide | assumption)
   all_goals try (exfalso; omega)
   · have hk1 : (v4.getD (i : Int).toNat []).length ≤ 8 := mem_len (getD_mem (by omega)) rfl
     have hk2 := (hc.2 (cs.getD j.toNat cls0) (getD_mem (by omega))).1
     exact ⟨(c + 1, vs ++ [⟨v4.getD (i : Int).toNat [], (cs.getD j.toNat cls0).key⟩], i + 1), ⟨⟨by omega, by show _ ≤ b2 + 3 * ((i + 1 : Nat) : Int); omega, by omega⟩, allK_snoc p4 (by omega) ⟨hk1, hk2⟩⟩, by show 4 - (i + 1) < 4 - i; omega,
      Entails.mk' [(1000000, 1000000), (2, 2), (3, 3), (10, 10), (20, 45)] rfl rfl ⟨lr, lr, lr, lr, lr, lr, trivial⟩ ⟨rr, rr, rr, rr, Res.le_snocF rfl, trivial⟩⟩
   · exact ⟨(c, vs, i + 1), ⟨⟨by omega, by show _ ≤ b2 + 3 * ((i + 1 : Nat) : Int); omega, by omega⟩, allK_le p4 (by omega)⟩, by show 4 - (i + 1) < 4 - i; omega, (by (refine Entails.mk' [(1000000, 1000000), (2, 2), (3, 3), (10, 10), (20, 20)] rfl rfl ?_ ?_ <;> repeat' (first | exact True.intro | exact lr | exact rr | exact SV.le_int (by omega) | exact SV.le_any _ | refine And.intro ?_ ?_)); done)⟩
 have hi4 : i = 4 := by omega
 subst hi4
 have hb3 : b ≤ b2 + 12 := by omega
 have p4v := p4
 have hlv : vs.length ≤ 4 := p4.1
 conv => whnf
 repeat' (first | (refine CallX.of (s64 n L hL _ ?_ ?_ 0 5 ?_ ?_ ?_ ?_) [(1000000, 1000000)] rfl ⟨lr, lr, lr, trivial⟩ ⟨rr, trivial⟩ rfl rfl ?_; rotate_right; rintro x rout ⟨⟨m, hm1, hm2, rfl⟩, ⟨c, c1, c2, rfl⟩⟩; refine ⟨rfl, ?_⟩; conv => whnf) | (refine br_intro ?_ ?_ <;> intro hb <;> (try simp only [brs] at hb) <;> conv => whnf) | (refine RegX.rule (id := 8) hT rfl [] oUFlO59_8 (by decide +kernel) ?_; conv => whnf) | (refine RegX.rule (id := 13) hT rfl [] oUFlO59_13 (by decide +kernel) ?_; conv => whnf) | (refine RegX.rule (id := 14) hT rfl [] oUFlO59_14 (by decide +kernel) ?_; conv => whnf) | omega | (refine And.intro ?_ ?_; ((try dsimp only); first | omega | (refine szA rfl ?_; omega) | (refine szB rfl ?_; omega) | (unfold inI64; omega) | exact rfl | (simp only [List.toList_toArray, List.length_cons, List.length_nil]; omega) | (simp only [lns] at *; omega) | decide | (unfold inI64; decide)); conv => whnf) | decide | assumption)
 all_goals try (exfalso; omega)
 obtain ⟨b3, rfl⟩ : ∃ b3 : Int, b3 = c := ⟨_, rfl⟩
 refine LoopX.rule hT (C := []) (ι := Int × List Plt × Nat) (fun (b, ps, i) => (b3 ≤ b ∧ b ≤ b3 + 6 * i ∧ (i : Int) ≤ m) ∧ allK pltK i ps)
  (fun (b, ps, i) => mkSt [(0, .ptr 1000000 0), (2, .ptr 2 0), (3, .ptr 3 0), (49, .d (.int .i64 m)), (50, .d (.int .i64 i))] [(1000000, strm n L b), (2, nlC), (3, rfC cs), (10, staB st), (20, vehB vs), (30, pltB ps)])
  (fun (_, _, i) => (m - i).toNat) (b3, [], 0) ⟨⟨by simp, by simp, by simpa using hm1⟩, ⟨by simp, by simp⟩⟩ ?_ ?_
 · refine Entails.trans (Entails.nilCell 3 30 96 3 3 (rowF pltF plt0 []) rfl rfl rfl (by decide) rfl) ?_
   exact (by (refine Entails.mk' [(1000000, 1000000), (2, 2), (3, 3), (10, 10), (20, 20), (30, 30)] rfl rfl ?_ ?_ <;> repeat' (first | exact True.intro | exact lr | exact rr | exact SV.le_int (by omega) | exact SV.le_any _ | refine And.intro ?_ ?_)); done)
 rintro ⟨b, ps, i⟩ ⟨⟨p1, p2, p3⟩, p4⟩
 have p1 : b3 ≤ b := p1
 have p2 : b ≤ b3 + 6 * i := p2
 have p3 : (i : Int) ≤ m := p3
 have p4 : allK pltK i ps := p4
 have hl2 : ps.length ≤ i := p4.1
 rcases Int.lt_or_le (i : Int) m with hi | hi
 · conv => whnf
   repeat' (first | (refine CallX.of (s33 n L hL _ ?_ ?_ [0, 0, 50, 100, 200, 1000] ?_ ?_) [(1000000, 1000000)] rfl ⟨lr, SV.le_lit rfl rfl, trivial⟩ ⟨rr, trivial⟩ rfl rfl ?_; rotate_right; rintro x rout ⟨⟨u1, hu1, rfl⟩, ⟨c, c1, c2, rfl⟩⟩; have hw1 := pkD hu1 (by decide); refine ⟨rfl, ?_⟩; conv => whnf) | (refine CallX.of (s86 n L hL _ ?_ ?_ _ ?_) [(1000000, 1000000)] rfl ⟨lr, lr, trivial⟩ ⟨rr, trivial⟩ rfl rfl ?_; rotate_right; rintro x rout ⟨⟨j, hj1, hj2, hj3, rfl⟩, ⟨c, c1, c2, rfl⟩⟩; refine ⟨rfl, ?_⟩; conv => whnf) | (refine CallX.of (s15 n L hL _ ?_ ?_ [[65, 66, 49], [65, 66, 50], [90, 90, 57]] (by simp) (by simp)) [(1000000, 1000000)] rfl ⟨lr, SV.le_lit rfl rfl, trivial⟩ ⟨rr, trivial⟩ rfl rfl ?_; rotate_right; rintro x rout ⟨⟨u3, hu3, rfl⟩, ⟨c, c1, c2, rfl⟩⟩; have hw3 := mem_len hu3 rfl; refine ⟨rfl, ?_⟩; conv => whnf) | (refine br_intro ?_ ?_ <;> intro hb <;> (try simp only [brs] at hb) <;> conv => whnf) | (refine RegX.rule (id := 8) hT rfl [] oUFlO59_8 (by decide +kernel) ?_; conv => whnf) | (refine RegX.rule (id := 13) hT rfl [] oUFlO59_13 (by decide +kernel) ?_; conv => whnf) | (refine RegX.rule (id := 14) hT rfl [] oUFlO59_14 (by decide +kernel) ?_; conv => whnf) | omega | (refine And.intro ?_ ?_; ((try dsimp only); first | omega | (refine szA rfl ?_; omega) | (refine szB rfl ?_; omega) | (unfold inI64; omega) | exact rfl | (simp only [List.toList_toArray, List.length_cons, List.length_nil]; omega) | (simp only [lns] at *; omega) | decide | (unfold inI64; decide)); conv => whnf) | decide | assumption)
   · refine .ret _ ?_
     conv => whnf
     exact ⟨[(10, staB st), (20, vehB vs), (30, pltB ps), (1000000, strm n L b)], ⟨st, cs, vs, ps, b, ⟨hst, hc, p4v, allK_le p4 (by omega)⟩, ⟨by omega, by omega⟩, rfl, rfl⟩, rr, rr, rr, rr, trivial⟩
   have hpk : pltK ⟨u1, (vs.getD j.toNat veh0).key, u3⟩ := ⟨⟨by show (-2^40 : Int) ≤ u1; omega, by show u1 ≤ 2^40; omega⟩, (p4v.2 _ (getD_mem (by omega))).1, by show u3.length ≤ 16; omega⟩
   have hps := allK_snoc p4 (show i + 1 ≤ 12 by omega) hpk
   have hcS := sSortPl 109 rfCmp (ps ++ [⟨u1, (vs.getD j.toNat veh0).key, u3⟩]) hps.1 (fun p q hp hq => z139 p q (hps.2 _ hp) (hps.2 _ hq))
   obtain ⟨QS, hQS⟩ : ∃ QS, QS = isort rfCmp (ps ++ [⟨u1, (vs.getD j.toNat veh0).key, u3⟩]) := ⟨_, rfl⟩
   have hq := hps
   have hQ : allK pltK (i + 1) QS := by
    have hp := isort_perm rfCmp (ps ++ [⟨u1, (vs.getD j.toNat veh0).key, u3⟩])
    rw [← hQS] at hp
    exact ⟨by rw [hp.length_eq, List.length_append]; show ps.length + 1 ≤ i + 1; omega, fun x hx => hps.2 x (hp.mem_iff.1 hx)⟩
   have hok : fltOk ⟨st, cs, vs, QS⟩ := ⟨⟨Nat.le_trans hst.1 (by decide), fun s hs => Nat.le_trans (hst.2 s hs) (by decide)⟩, ⟨by show cs.length ≤ 2^20; omega, fun s hs => ⟨Nat.le_trans (hc.2 s hs).1 (by decide), Nat.le_trans (hc.2 s hs).2 (by decide)⟩⟩,
    ⟨by show vs.length ≤ 2^20; omega, fun s hs => ⟨Nat.le_trans (p4v.2 s hs).1 (by decide), Nat.le_trans (p4v.2 s hs).2 (by decide)⟩⟩, ⟨by show QS.length ≤ 2^20; have := hQ.1; omega, fun s hs => ⟨(hQ.2 s hs).1, Nat.le_trans (hQ.2 s hs).2.1 (by decide), Nat.le_trans (hQ.2 s hs).2.2 (by decide)⟩⟩⟩
   rw [← hQS] at hcS
   refine CallX.of (z137 ps (by omega)) [(1000001, 30), (7, 75)] rfl ⟨lr, trivial⟩ ⟨rr, trivial⟩ rfl rfl ?_
   rintro x rout (⟨rfl, hnil, rfl⟩ | ⟨rfl, rfl⟩)
   · have hnil2 := hnil
     rw [hnil] at hcS
     refine ⟨rfl, ?_⟩
     conv => whnf
     repeat' (first | (refine br_intro ?_ ?_ <;> intro hb <;> (try simp only [brs] at hb) <;> conv => whnf) | (refine RegX.rule (id := 8) hT rfl [] oUFlO59_8 (by decide +kernel) ?_; conv => whnf) | (refine RegX.rule (id := 13) hT rfl [] oUFlO59_13 (by decide +kernel) ?_; conv => whnf) | (refine RegX.rule (id := 14) hT rfl [] oUFlO59_14 (by decide +kernel) ?_; conv => whnf) | omega | (refine And.intro ?_ ?_; ((try dsimp only); first | omega | (refine szA rfl ?_; omega) | (refine szB rfl ?_; omega) | (unfold inI64; omega) | exact rfl | (simp only [List.toList_toArray, List.length_cons, List.length_nil]; omega) | (simp only [lns] at *; omega) | decide | (unfold inI64; decide)); conv => whnf) | decide | assumption)
     refine CallX.of hcS [(1000001, 78)] rfl ⟨lr, lr, trivial⟩ ⟨Res.le_lit rfl rfl, trivial⟩ rfl rfl ?_
     rintro x rout ⟨rfl, rfl⟩
     refine ⟨rfl, ?_⟩
     conv => whnf
     repeat' (first | (refine br_intro ?_ ?_ <;> intro hb <;> (try simp only [brs] at hb) <;> conv => whnf) | (refine RegX.rule (id := 8) hT rfl [] oUFlO59_8 (by decide +kernel) ?_; conv => whnf) | (refine RegX.rule (id := 13) hT rfl [] oUFlO59_13 (by decide +kernel) ?_; conv => whnf) | (refine RegX.rule (id := 14) hT rfl [] oUFlO59_14 (by decide +kernel) ?_; conv => whnf) | omega | (refine And.intro ?_ ?_; ((try dsimp only); first | omega | (refine szA rfl ?_; omega) | (refine szB rfl ?_; omega) | (unfold inI64; omega) | exact rfl | (simp only [List.toList_toArray, List.length_cons, List.length_nil]; omega) | (simp only [lns] at *; omega) | decide | (unfold inI64; decide)); conv => whnf) | decide | assumption)
     refine CallX.of (z21l ⟨st, cs, vs, QS⟩ hok) [(1, 10), (3, 20), (4, 78)] rfl ⟨lr, trivial⟩ ⟨rr, rr, rr, trivial⟩ rfl rfl ?_
     rintro x rout ⟨rfl, rfl⟩
     refine ⟨rfl, ?_⟩
     conv => whnf
     repeat' (first | (refine br_intro ?_ ?_ <;> intro hb <;> (try simp only [brs] at hb) <;> conv => whnf) | (refine RegX.rule (id := 8) hT rfl [] oUFlO59_8 (by decide +kernel) ?_; conv => whnf) | (refine RegX.rule (id := 13) hT rfl [] oUFlO59_13 (by decide +kernel) ?_; conv => whnf) | (refine RegX.rule (id := 14) hT rfl [] oUFlO59_14 (by decide +kernel) ?_; conv => whnf) | omega | (refine And.intro ?_ ?_; ((try dsimp only); first | omega | (refine szA rfl ?_; omega) | (refine szB rfl ?_; omega) | (unfold inI64; omega) | exact rfl | (simp only [List.toList_toArray, List.length_cons, List.length_nil]; omega) | (simp only [lns] at *; omega) | decide | (unfold inI64; decide)); conv => whnf) | decide | assumption)
     · exact ⟨(c, QS, i + 1), ⟨⟨by omega, by show _ ≤ b3 + 6 * ((i + 1 : Nat) : Int); omega, by show ((i + 1 : Nat) : Int) ≤ m; omega⟩, hQ⟩, by show (m - ((i + 1 : Nat) : Int)).toNat < (m - (i : Int)).toNat; omega, (by (refine Entails.mk' [(1000000, 1000000), (2, 2), (3, 3), (10, 10), (20, 20), (30, 78)] rfl rfl ?_ ?_ <;> repeat' (first | exact True.intro | exact lr | exact rr | exact SV.le_int (by omega) | exact SV.le_any _ | refine And.intro ?_ ?_)); done)⟩
     · exact ⟨(c, ps, i + 1), ⟨⟨by omega, by show _ ≤ b3 + 6 * ((i + 1 : Nat) : Int); omega, by show ((i + 1 : Nat) : Int) ≤ m; omega⟩, allK_le p4 (by omega)⟩, by show (m - ((i + 1 : Nat) : Int)).toNat < (m - (i : Int)).toNat; omega, (by (refine Entails.mk' [(1000000, 1000000), (2, 2), (3, 3), (10, 10), (20, 20), (30, 30)] rfl rfl ?_ ?_ <;> repeat' (first | exact True.intro | exact lr | exact rr | exact SV.le_int (by omega) | exact SV.le_any _ | refine And.intro ?_ ?_)); done)⟩
   · refine ⟨rfl, ?_⟩
     conv => whnf
     repeat' (first | (refine br_intro ?_ ?_ <;> intro hb <;> (try simp only [brs] at hb) <;> conv => whnf) | (refine RegX.rule (id := 8) hT rfl [] oUFlO59_8 (by decide +kernel) ?_; conv => whnf) | (refine RegX.rule (id := 13) hT rfl [] oUFlO59_13 (by decide +kernel) ?_; conv => whnf) | (refine RegX.rule (id := 14) hT rfl [] oUFlO59_14 (by decide +kernel) ?_; conv => whnf) | omega | (refine And.intro ?_ ?_; ((try dsimp only); first | omega | (refine szA rfl ?_; omega) | (refine szB rfl ?_; omega) | (unfold inI64; omega) | exact rfl | (simp only [List.toList_toArray, List.length_cons, List.length_nil]; omega) | (simp only [lns] at *; omega) | decide | (unfold inI64; decide)); conv => whnf) | decide | assumption)
     refine CallX.of hcS [(1000001, 78)] rfl ⟨lr, lr, trivial⟩ ⟨Res.le_snocF rfl, trivial⟩ rfl rfl ?_
     rintro x rout ⟨rfl, rfl⟩
     refine ⟨rfl, ?_⟩
     conv => whnf
     repeat' (first | (refine br_intro ?_ ?_ <;> intro hb <;> (try simp only [brs] at hb) <;> conv => whnf) | (refine RegX.rule (id := 8) hT rfl [] oUFlO59_8 (by decide +kernel) ?_; conv => whnf) | (refine RegX.rule (id := 13) hT rfl [] oUFlO59_13 (by decide +kernel) ?_; conv => whnf) | (refine RegX.rule (id := 14) hT rfl [] oUFlO59_14 (by decide +kernel) ?_; conv => whnf) | omega | (refine And.intro ?_ ?_; ((try dsimp only); first | omega | (refine szA rfl ?_; omega) | (refine szB rfl ?_; omega) | (unfold inI64; omega) | exact rfl | (simp only [List.toList_toArray, List.length_cons, List.length_nil]; omega) | (simp only [lns] at *; omega) | decide | (unfold inI64; decide)); conv => whnf) | decide | assumption)
     refine CallX.of (z21l ⟨st, cs, vs, QS⟩ hok) [(1, 10), (3, 20), (4, 78)] rfl ⟨lr, trivial⟩ ⟨rr, rr, rr, trivial⟩ rfl rfl ?_
     rintro x rout ⟨rfl, rfl⟩
     refine ⟨rfl, ?_⟩
     conv => whnf
     repeat' (first | (refine br_intro ?_ ?_ <;> intro hb <;> (try simp only [brs] at hb) <;> conv => whnf) | (refine RegX.rule (id := 8) hT rfl [] oUFlO59_8 (by decide +kernel) ?_; conv => whnf) | (refine RegX.rule (id := 13) hT rfl [] oUFlO59_13 (by decide +kernel) ?_; conv => whnf) | (refine RegX.rule (id := 14) hT rfl [] oUFlO59_14 (by decide +kernel) ?_; conv => whnf) | omega | (refine And.intro ?_ ?_; ((try dsimp only); first | omega | (refine szA rfl ?_; omega) | (refine szB rfl ?_; omega) | (unfold inI64; omega) | exact rfl | (simp only [List.toList_toArray, List.length_cons, List.length_nil]; omega) | (simp only [lns] at *; omega) | decide | (unfold inI64; decide)); conv => whnf) | decide | assumption)
     · exact ⟨(c, QS, i + 1), ⟨⟨by omega, by show _ ≤ b3 + 6 * ((i + 1 : Nat) : Int); omega, by show ((i + 1 : Nat) : Int) ≤ m; omega⟩, hQ⟩, by show (m - ((i + 1 : Nat) : Int)).toNat < (m - (i : Int)).toNat; omega, (by (refine Entails.mk' [(1000000, 1000000), (2, 2), (3, 3), (10, 10), (20, 20), (30, 78)] rfl rfl ?_ ?_ <;> repeat' (first | exact True.intro | exact lr | exact rr | exact SV.le_int (by omega) | exact SV.le_any _ | refine And.intro ?_ ?_)); done)⟩
     · exact ⟨(c, ps, i + 1), ⟨⟨by omega, by show _ ≤ b3 + 6 * ((i + 1 : Nat) : Int); omega, by show ((i + 1 : Nat) : Int) ≤ m; omega⟩, allK_le p4 (by omega)⟩, by show (m - ((i + 1 : Nat) : Int)).toNat < (m - (i : Int)).toNat; omega, (by (refine Entails.mk' [(1000000, 1000000), (2, 2), (3, 3), (10, 10), (20, 20), (30, 30)] rfl rfl ?_ ?_ <;> repeat' (first | exact True.intro | exact lr | exact rr | exact SV.le_int (by omega) | exact SV.le_any _ | refine And.intro ?_ ?_)); done)⟩
 have him : (i : Int) = m := by omega
 conv => whnf
 repeat' (first | (refine br_intro ?_ ?_ <;> intro hb <;> (try simp only [brs] at hb) <;> conv => whnf) | (refine RegX.rule (id := 8) hT rfl [] oUFlO59_8 (by decide +kernel) ?_; conv => whnf) | (refine RegX.rule (id := 13) hT rfl [] oUFlO59_13 (by decide +kernel) ?_; conv => whnf) | (refine RegX.rule (id := 14) hT rfl [] oUFlO59_14 (by decide +kernel) ?_; conv => whnf) | omega | (refine And.intro ?_ ?_; ((try dsimp only); first | omega | (refine szA rfl ?_; omega) | (refine szB rfl ?_; omega) | (unfold inI64; omega) | exact rfl | (simp only [List.toList_toArray, List.length_cons, List.length_nil]; omega) | (simp only [lns] at *; omega) | decide | (unfold inI64; decide)); conv => whnf) | decide | assumption)
 all_goals try (exfalso; omega)
 refine .ret _ ?_
 conv => whnf
 exact ⟨[(10, staB st), (20, vehB vs), (30, pltB ps), (1000000, strm n L b)], ⟨st, cs, vs, ps, b, ⟨hst, hc, p4v, allK_le p4 (by omega)⟩, ⟨by omega, by omega⟩, rfl, rfl⟩, rr, rr, rr, rr, trivial⟩
def oUFlP23_7 : List (Nat × List Nat) := [(0, []), (1, []), (2, [0, 1]), (3, [0, 1, 2]), (4, [0, 1]), (5, [0, 1]), (6, [0, 1]), (7, []), (8, []), (9, [])]
def oUFlP23_11 : List (Nat × List Nat) := [(0, []), (1, []), (2, [0, 1]), (3, [0, 1, 2]), (5, [0, 1, 2, 3]), (4, [0, 1, 5]), (6, [0, 1]), (7, [0, 1]), (8, [0, 1]), (9, []), (10, []), (11, [])]
def oUFlP23_5 : List (Nat × List Nat) := [(0, []), (1, []), (2, [0, 1]), (4, [0, 1, 2]), (5, [0, 1, 2, 4]), (7, [0, 1, 2, 4, 5]), (8, [0, 1, 2, 4, 5, 7]), (3, [0, 1, 4, 5, 7, 8]), (6, [0, 1, 7, 8]), (9, [0, 1]), (10, [0, 1]), (11, [0, 1]), (12, []), (13, []), (14, [])]
structure fltK (f : Flt) : Prop where
 sta : allK staK 4 f.sta
 cls : clsB f.cls
 veh : allK vehK 5 f.veh
 plt : allK pltK 6 f.plt
theorem fltK.ok {f : Flt} (h : fltK f) : fltOk f :=
 ⟨⟨Nat.le_trans h.sta.1 (by decide), fun s hs => Nat.le_trans (h.sta.2 s hs) (by decide)⟩, ⟨Nat.le_trans h.cls.1 (by decide), fun s hs => ⟨Nat.le_trans (h.cls.2 s hs).1 (by decide), Nat.le_trans (h.cls.2 s hs).2 (by decide)⟩⟩,
   ⟨Nat.le_trans h.veh.1 (by decide), fun s hs => ⟨Nat.le_trans (h.veh.2 s hs).1 (by decide), Nat.le_trans (h.veh.2 s hs).2 (by decide)⟩⟩, ⟨Nat.le_trans h.plt.1 (by decide), fun s hs => ⟨(h.plt.2 s hs).1, Nat.le_trans (h.plt.2 s hs).2.1 (by decide), Nat.le_trans (h.plt.2 s hs).2.2 (by decide)⟩⟩⟩
set_option maxHeartbeats 4000000 in
theorem sFlt (n : Nat) (L : Nat → Int) (hL : Rok n L) (a : Int) (h0 : 0 ≤ a) (ha : a ≤ 2^34) :
 FSpec Tryz.prog 23 [.ptr 1000000 0] [(1000000, strm n L a)] (fun y r => (∃ f : Flt, fltK f ∧ y = flt f) ∧ Moved n L a 600 r) := by
 refine spec_of hT (C := []) Tryz.func23 rfl Tryz.call23 rfl rfl rfl ?_
 conv => whnf
 refine CallX.of (sRFlt n L hL a h0 (by omega)) [(1000000, 1000000), (10, 10), (20, 20), (30, 30)] rfl ⟨lr, trivial⟩ ⟨rr, trivial⟩ rfl rfl ?_
 rintro x rout ⟨st, cs, vs, ps, b, ⟨k1, k2, k3, k4⟩, ⟨b1, b2⟩, rfl, rfl⟩
 have k1l := k1.1
 have k3l := k3.1
 have k4l := k4.1
 have k2c : clsB cs := ⟨by have := k2.1; omega, k2.2⟩
 refine ⟨rfl, ?_⟩
 conv => whnf
 repeat' (first | (refine CallX.of (s84 n L hL _ ?_ ?_ 12 ?_) [(1000000, 1000000)] rfl ⟨lr, lr, trivial⟩ ⟨rr, trivial⟩ rfl rfl ?_; rotate_right; rintro x rout ⟨⟨w, rfl⟩, ⟨c, c1, c2, rfl⟩⟩; refine ⟨rfl, ?_⟩; conv => whnf) | (refine CallX.of (s86 n L hL _ ?_ ?_ 4 ?_) [(1000000, 1000000)] rfl ⟨lr, lr, trivial⟩ ⟨rr, trivial⟩ rfl rfl ?_; rotate_right; rintro x rout ⟨⟨j, hj1, hj2, hj3, rfl⟩, ⟨c, c1, c2, rfl⟩⟩; refine ⟨rfl, ?_⟩; conv => whnf) | (refine CallX.of (s15 n L hL _ ?_ ?_ [[], [65], [115, 49], [115, 57]] (by simp) (by simp)) [(1000000, 1000000)] rfl ⟨lr, SV.le_lit rfl rfl, trivial⟩ ⟨rr, trivial⟩ rfl rfl ?_; rotate_right; rintro x rout ⟨⟨u1, hu1, rfl⟩, ⟨c, c1, c2, rfl⟩⟩; have hw1 := mem_len16 hu1 rfl; refine ⟨rfl, ?_⟩; conv => whnf) | (refine CallX.of (s15 n L hL _ ?_ ?_ [[], [118, 49], [118, 57]] (by simp) (by simp)) [(1000000, 1000000)] rfl ⟨lr, SV.le_lit rfl rfl, trivial⟩ ⟨rr, trivial⟩ rfl rfl ?_; rotate_right; rintro x rout ⟨⟨u2, hu2, rfl⟩, ⟨c, c1, c2, rfl⟩⟩; have hw2 := mem_len hu2 rfl; refine ⟨rfl, ?_⟩; conv => whnf) | (refine CallX.of (s15 n L hL _ ?_ ?_ [[118, 49], [110, 111, 110, 101]] (by simp) (by simp)) [(1000000, 1000000)] rfl ⟨lr, SV.le_lit rfl rfl, trivial⟩ ⟨rr, trivial⟩ rfl rfl ?_; rotate_right; rintro x rout ⟨⟨u3, hu3, rfl⟩, ⟨c, c1, c2, rfl⟩⟩; have hw3 := mem_len hu3 rfl; refine ⟨rfl, ?_⟩; conv => whnf) | (refine CallX.of (s15 n L hL _ ?_ ?_ [[65, 66, 49], [97, 49], [65], [65, 66, 67, 68, 69, 70, 71, 72, 73, 74, 49], [65, 66, 49]] (by simp) (by simp)) [(1000000, 1000000)] rfl ⟨lr, SV.le_lit rfl rfl, trivial⟩ ⟨rr, trivial⟩ rfl rfl ?_; rotate_right; rintro x rout ⟨⟨u4, hu4, rfl⟩, ⟨c, c1, c2, rfl⟩⟩; have hw4 := mem_len16 hu4 rfl; refine ⟨rfl, ?_⟩; conv => whnf) | (refine CallX.of (s104 n L hL _ ?_ ?_ 0 2000 ?_ ?_ ?_) [(1000000, 1000000)] rfl ⟨lr, lr, lr, trivial⟩ ⟨rr, trivial⟩ rfl rfl ?_; rotate_right; rintro x rout ⟨⟨o, ho1, ho2, rfl⟩, ⟨c, c1, c2, rfl⟩⟩; refine ⟨rfl, ?_⟩; conv => whnf) | (refine CallX.of (sClsKey n L hL _ ?_ ?_) [(1000000, 1000000)] rfl ⟨lr, trivial⟩ ⟨rr, trivial⟩ rfl rfl ?_; rotate_right; rintro x rout ⟨⟨u5, hu5, rfl⟩, ⟨c, c1, c2, rfl⟩⟩; refine ⟨rfl, ?_⟩; conv => whnf) | (refine CallX.of (sAnyCls n L hL _ ?_ ?_) [(1000000, 1000000)] rfl ⟨lr, trivial⟩ ⟨rr, trivial⟩ rfl rfl ?_; rotate_right; rintro x rout ⟨⟨cn, hcn, rfl⟩, ⟨c, c1, c2, rfl⟩⟩; refine ⟨rfl, ?_⟩; conv => whnf) | (refine br_intro ?_ ?_ <;> intro hb <;> (try simp only [brs] at hb) <;> conv => whnf) | (refine RegX.rule (id := 7) hT rfl [] oUFlP23_7 (by decide +kernel) ?_; conv => whnf) | (refine RegX.rule (id := 11) hT rfl [] oUFlP23_11 (by decide +kernel) ?_; conv => whnf) | (refine RegX.rule (id := 5) hT rfl [] oUFlP23_5 (by decide +kernel) ?_; conv => whnf) | omega | (refine And.intro ?_ ?_; ((try dsimp only); first | omega | (refine szA rfl ?_; omega) | (refine szB rfl ?_; omega) | (unfold inI64; omega) | exact rfl | (simp only [List.toList_toArray, List.length_cons, List.length_nil]; omega) | (simp only [lns] at *; omega) | decide | (unfold inI64; decide)); conv => whnf) | decide | assumption)
 · refine .freeze _ 10 90 15 _ _ rfl (.freeze _ 20 93 2 _ _ rfl (.freeze _ 30 96 3 _ _ rfl ?_))
   refine .ent _ _ (Entails.froCell 2 10 15 _ 0 _ rfl rfl rfl) ?_
   refine .ent _ _ (Entails.froCell 2 20 2 _ 2 _ rfl rfl rfl) ?_
   refine .ent _ _ (Entails.froCell 2 30 3 _ 3 _ rfl rfl rfl) ?_
   refine .weak _ ?_
   conv => whnf
   exact ⟨flt ⟨st, cs, vs, ps⟩, [(1000000, strm n L _)], SV.le_agg ⟨lr, lr, lr, lr, trivial⟩, ⟨⟨⟨st, cs, vs, ps⟩, ⟨allK_le k1 (by omega), k2c, allK_le k3 (by omega), allK_le k4 (by omega)⟩, rfl⟩, _, by omega, by omega, rfl⟩, rr, trivial⟩
 · refine .freeze _ 35 90 15 _ _ rfl (.freeze _ 20 93 2 _ _ rfl (.freeze _ 30 96 3 _ _ rfl ?_))
   refine .ent _ _ (Entails.froCell 2 35 15 _ 0 _ rfl rfl rfl) ?_
   refine .ent _ _ (Entails.froCell 2 20 2 _ 2 _ rfl rfl rfl) ?_
   refine .ent _ _ (Entails.froCell 2 30 3 _ 3 _ rfl rfl rfl) ?_
   refine .weak _ ?_
   conv => whnf
   exact ⟨flt ⟨st ++ [⟨u1, fun _ => 0⟩], cs, vs, ps⟩, [(1000000, strm n L _)], SV.le_agg ⟨SV.le_snocF rfl, lr, lr, lr, trivial⟩, ⟨⟨⟨st ++ [⟨u1, fun _ => 0⟩], cs, vs, ps⟩, ⟨allK_snoc k1 (by omega) (by show u1.length ≤ 8; exact mem_len hu1 rfl), k2c, allK_le k3 (by omega), allK_le k4 (by omega)⟩, rfl⟩, _, by omega, by omega, rfl⟩, rr, trivial⟩
 · refine .freeze _ 10 90 15 _ _ rfl (.freeze _ 20 93 2 _ _ rfl (.freeze _ 30 96 3 _ _ rfl ?_))
   refine .ent _ _ (Entails.froCell 2 10 15 _ 0 _ rfl rfl rfl) ?_
   refine .ent _ _ (Entails.froCell 2 20 2 _ 2 _ rfl rfl rfl) ?_
   refine .ent _ _ (Entails.froCell 2 30 3 _ 3 _ rfl rfl rfl) ?_
   refine .weak _ ?_
   conv => whnf
   exact ⟨flt ⟨st, cn, vs, ps⟩, [(1000000, strm n L _)], SV.le_agg ⟨lr, lr, lr, lr, trivial⟩, ⟨⟨⟨st, cn, vs, ps⟩, ⟨allK_le k1 (by omega), hcn, allK_le k3 (by omega), allK_le k4 (by omega)⟩, rfl⟩, _, by omega, by omega, rfl⟩, rr, trivial⟩
 · refine .freeze _ 10 90 15 _ _ rfl (.freeze _ 53 93 2 _ _ rfl (.freeze _ 30 96 3 _ _ rfl ?_))
   refine .ent _ _ (Entails.froCell 2 10 15 _ 0 _ rfl rfl rfl) ?_
   refine .ent _ _ (Entails.froCell 2 53 2 _ 2 _ rfl rfl rfl) ?_
   refine .ent _ _ (Entails.froCell 2 30 3 _ 3 _ rfl rfl rfl) ?_
   refine .weak _ ?_
   conv => whnf
   exact ⟨flt ⟨st, cs, vs ++ [⟨u2, u5⟩], ps⟩, [(1000000, strm n L _)], SV.le_agg ⟨lr, lr, SV.le_snocF rfl, lr, trivial⟩, ⟨⟨⟨st, cs, vs ++ [⟨u2, u5⟩], ps⟩, ⟨allK_le k1 (by omega), k2c, allK_snoc k3 (by omega) ⟨hw2, hu5⟩, allK_le k4 (by omega)⟩, rfl⟩, _, by omega, by omega, rfl⟩, rr, trivial⟩
 · refine .freeze _ 10 90 15 _ _ rfl (.freeze _ 20 93 2 _ _ rfl (.freeze _ 24 96 3 _ _ rfl ?_))
   refine .ent _ _ (Entails.froCell 2 10 15 _ 0 _ rfl rfl rfl) ?_
   refine .ent _ _ (Entails.froCell 2 20 2 _ 2 _ rfl rfl rfl) ?_
   refine .ent _ _ (Entails.froCell 2 24 3 _ 3 _ rfl rfl rfl) ?_
   refine .weak _ ?_
   conv => whnf
   exact ⟨flt ⟨st, cs, vs, ps ++ [⟨o, u3, u4⟩]⟩, [(1000000, strm n L _)], SV.le_agg ⟨lr, lr, lr, SV.le_snocF rfl, trivial⟩, ⟨⟨⟨st, cs, vs, ps ++ [⟨o, u3, u4⟩]⟩, ⟨allK_le k1 (by omega), k2c, allK_le k3 (by omega), allK_snoc k4 (by omega) ⟨⟨ho1, ho2⟩, hw3, hw4⟩⟩, rfl⟩, _, by omega, by omega, rfl⟩, rr, trivial⟩
def oUTmA105_12 : List (Nat × List Nat) := [(0, []), (1, []), (2, [0, 1]), (3, [0, 1, 2]), (4, [0, 1]), (5, []), (6, [])]
def ratM (x : Rat) : Prop := x.cls.length ≤ 8
def c3 : List (List UInt8) := [[109, 97, 120, 105], [109, 105, 100, 105], [109, 105, 110, 105]]
set_option maxHeartbeats 4000000 in
theorem y169 (n : Nat) (L : Nat → Int) (hL : Rok n L) (a : Int) (h0 : 0 ≤ a) (ha : a ≤ 2^36) :
 FSpec Tryz.prog 105 [.ptr 1000000 0] [(1000000, strm n L a)] (fun y r => ∃ l : List Rat, ∃ b, allK ratM 9 l ∧ (a ≤ b ∧ b ≤ a + 100) ∧ y = .buf 3 ∧ r = [(3, seqB 130 7 ratF rat0 l), (1000000, strm n L b)]) := by
 refine spec_of hT (C := []) Tryz.func105 rfl Tryz.call105 rfl rfl rfl ?_
 conv => whnf
 refine LoopX.rule hT (C := []) (ι := Int × List Rat × Nat) (fun (b, l, i) => (a ≤ b ∧ b ≤ a + 30 * i ∧ i ≤ 3) ∧ allK ratM (3 * i) l)
  (fun (b, l, i) => mkSt [(0, .ptr 1000000 0), (3, .buf 3), (8, .d (strs c3)), (9, .d (.int .i64 3)), (10, .d (.int .i64 i))] [(1000000, strm n L b), (3, seqB 130 7 ratF rat0 l)])
  (fun (_, _, i) => 3 - i) (a, [], 0) ⟨⟨by simp, by simp, by simp⟩, ⟨by simp, by simp⟩⟩ ?_ ?_
 · refine (Entails.nil 3 3 130 7 (rowF ratF rat0 []) rfl rfl (by decide)).trans (Entails.mk' [(1000000, 1000000), (3, 3)] rfl rfl ⟨lr, lr, SV.le_lit rfl rfl, lr, lr, trivial⟩ ⟨rr, rr, trivial⟩)
 rintro ⟨b, l, i⟩ ⟨⟨p1, p2, p3⟩, p4⟩
 have p1 : a ≤ b := p1
 have p2 : b ≤ a + 30 * i := p2
 have p3 : i ≤ 3 := p3
 have p4 : allK ratM (3 * i) l := p4
 have hc3 : c3.length = 3 := rfl
 have hl1 : l.length ≤ 3 * i := p4.1
 rcases Nat.lt_or_ge i 3 with hi | hi
 · conv => whnf
   repeat' (first | (refine CallX.of (s33 n L hL _ ?_ ?_ [0, 0, 0, 3] ?_ ?_) [(1000000, 1000000)] rfl ⟨lr, SV.le_lit rfl rfl, trivial⟩ ⟨rr, trivial⟩ rfl rfl ?_; rotate_right; rintro x rout ⟨⟨u1, hu1, rfl⟩, ⟨c, c1, c2, rfl⟩⟩; have hw1 := pkD hu1 (by decide); refine ⟨rfl, ?_⟩; conv => whnf) | (refine CallX.of (s33 n L hL _ ?_ ?_ [0, 1, 1, 2, 3] ?_ ?_) [(1000000, 1000000)] rfl ⟨lr, SV.le_lit rfl rfl, trivial⟩ ⟨rr, trivial⟩ rfl rfl ?_; rotate_right; rintro x rout ⟨⟨u2, hu2, rfl⟩, ⟨c, c1, c2, rfl⟩⟩; refine ⟨rfl, ?_⟩; conv => whnf) | (refine br_intro ?_ ?_ <;> intro hb <;> (try simp only [brs] at hb) <;> conv => whnf) | (refine RegX.rule (id := 12) hT rfl [] oUTmA105_12 (by decide +kernel) ?_; conv => whnf) | omega | (refine And.intro ?_ ?_; ((try dsimp only); first | omega | (refine szA rfl ?_; omega) | (refine szB rfl ?_; omega) | (unfold inI64; omega) | exact rfl | (simp only [List.toList_toArray, List.length_cons, List.length_nil]; omega) | (simp only [lns] at *; omega) | decide | (unfold inI64; decide)); conv => whnf) | decide | assumption)
   all_goals try (exfalso; omega)
   have hw2 : 0 ≤ u2 ∧ u2 ≤ 3 := by simp only [List.mem_cons, List.not_mem_nil, or_false] at hu2; omega
   have hw3 : u1 ≤ 5000 := by omega
   have hkk : (c3.getD (i : Int).toNat []).length ≤ 8 := mem_len (getD_mem (by omega)) rfl
   obtain ⟨cc, hcc⟩ : ∃ cc : Int, cc = c := ⟨_, rfl⟩
   obtain ⟨ky, hky⟩ : ∃ ky, ky = c3.getD (i : Int).toNat [] := ⟨_, rfl⟩
   refine LoopX.rule hT (C := []) (ι := Int × List Rat × Int × Nat) (fun (d, m, f, k) => (cc ≤ d ∧ d ≤ cc + 6 * k ∧ (k : Int) ≤ u2) ∧ allK ratM (3 * i + k) m ∧ 0 ≤ f ∧ f ≤ 5000)
    (fun (d, m, f, k) => mkSt [(0, .ptr 1000000 0), (3, .buf 3), (5, .d (.str ky)), (6, .d (.int .i64 f)), (8, .d (strs c3)), (9, .d (.int .i64 3)), (10, .d (.int .i64 i)), (19, .d (.int .i64 u2)), (20, .d (.int .i64 k))] [(1000000, strm n L d), (3, seqB 130 7 ratF rat0 m)])
    (fun (_, _, _, k) => u2.toNat - k) (cc, l, u1, 0) ⟨⟨by simp, by simp, by show ((0 : Nat) : Int) ≤ u2; omega⟩, p4, by show 0 ≤ u1; omega, by show u1 ≤ 5000; omega⟩ (by subst hcc hky; exact (by (refine Entails.mk' [(1000000, 1000000), (3, 3)] rfl rfl ?_ ?_ <;> repeat' (first | exact True.intro | exact lr | exact rr | exact SV.le_int (by omega) | exact SV.le_any _ | refine And.intro ?_ ?_)); done)) ?_
   rintro ⟨d, m, f, k⟩ ⟨⟨q1, q2, q3⟩, q4, q5, q6⟩
   have q1 : cc ≤ d := q1
   have q2 : d ≤ cc + 6 * k := q2
   have q3 : (k : Int) ≤ u2 := q3
   have q4 : allK ratM (3 * i + k) m := q4
   have q5 : 0 ≤ f := q5
   have q6 : f ≤ 5000 := q6
   have hm1 : m.length ≤ 3 * i + k := q4.1
   conv => whnf
   repeat' (first | (refine CallX.of (s33 n L hL _ ?_ ?_ [1, 5, 20, 4000] ?_ ?_) [(1000000, 1000000)] rfl ⟨lr, SV.le_lit rfl rfl, trivial⟩ ⟨rr, trivial⟩ rfl rfl ?_; rotate_right; rintro x rout ⟨⟨u3, hu3, rfl⟩, ⟨c, c1, c2, rfl⟩⟩; have hw4 : 0 ≤ u3 ∧ u3 ≤ 4000 := (by simp only [List.mem_cons, List.not_mem_nil, or_false] at hu3; omega); refine ⟨rfl, ?_⟩; conv => whnf) | (refine CallX.of (s33 n L hL _ ?_ ?_ [-1, 5, 10, 10, 0] ?_ ?_) [(1000000, 1000000)] rfl ⟨lr, SV.le_lit rfl rfl, trivial⟩ ⟨rr, trivial⟩ rfl rfl ?_; rotate_right; rintro x rout ⟨⟨u4, hu4, rfl⟩, ⟨c, c1, c2, rfl⟩⟩; refine ⟨rfl, ?_⟩; conv => whnf) | (refine CallX.of (s33 n L hL _ ?_ ?_ [-1, 50, 50, 70, 40] ?_ ?_) [(1000000, 1000000)] rfl ⟨lr, SV.le_lit rfl rfl, trivial⟩ ⟨rr, trivial⟩ rfl rfl ?_; rotate_right; rintro x rout ⟨⟨u5, hu5, rfl⟩, ⟨c, c1, c2, rfl⟩⟩; refine ⟨rfl, ?_⟩; conv => whnf) | (refine CallX.of (s33 n L hL _ ?_ ?_ [-1, 70, 90, 100] ?_ ?_) [(1000000, 1000000)] rfl ⟨lr, SV.le_lit rfl rfl, trivial⟩ ⟨rr, trivial⟩ rfl rfl ?_; rotate_right; rintro x rout ⟨⟨u6, hu6, rfl⟩, ⟨c, c1, c2, rfl⟩⟩; refine ⟨rfl, ?_⟩; conv => whnf) | (refine CallX.of (s33 n L hL _ ?_ ?_ [-1, 200, 250, 300] ?_ ?_) [(1000000, 1000000)] rfl ⟨lr, SV.le_lit rfl rfl, trivial⟩ ⟨rr, trivial⟩ rfl rfl ?_; rotate_right; rintro x rout ⟨⟨u7, hu7, rfl⟩, ⟨c, c1, c2, rfl⟩⟩; refine ⟨rfl, ?_⟩; conv => whnf) | (refine CallX.of (s33 n L hL _ ?_ ?_ [0, 0, 0, 2] ?_ ?_) [(1000000, 1000000)] rfl ⟨lr, SV.le_lit rfl rfl, trivial⟩ ⟨rr, trivial⟩ rfl rfl ?_; rotate_right; rintro x rout ⟨⟨u8, hu8, rfl⟩, ⟨c, c1, c2, rfl⟩⟩; have hw8 : 0 ≤ u8 ∧ u8 ≤ 2 := (by simp only [List.mem_cons, List.not_mem_nil, or_false] at hu8; omega); refine ⟨rfl, ?_⟩; conv => whnf) | (refine And.intro (by show inI64 (min (f + u3) 4001 + u8); unfold inI64; omega) ?_; conv => whnf) | (refine br_intro ?_ ?_ <;> intro hb <;> (try simp only [brs] at hb) <;> conv => whnf) | (refine RegX.rule (id := 12) hT rfl [] oUTmA105_12 (by decide +kernel) ?_; conv => whnf) | omega | (refine And.intro ?_ ?_; ((try dsimp only); first | omega | (refine szA rfl ?_; omega) | (refine szB rfl ?_; omega) | (unfold inI64; omega) | exact rfl | (simp only [List.toList_toArray, List.length_cons, List.length_nil]; omega) | (simp only [lns] at *; omega) | decide | (unfold inI64; decide)); conv => whnf) | decide | assumption)
   · exact ⟨(c, m, i + 1), ⟨⟨by omega, by show _ ≤ a + 30 * ((i + 1 : Nat) : Int); omega, by omega⟩, allK_le q4 (by omega)⟩, by show 3 - (i + 1) < 3 - i; omega, (by (refine Entails.mk' [(1000000, 1000000), (3, 3)] rfl rfl ?_ ?_ <;> repeat' (first | exact True.intro | exact lr | exact rr | exact SV.le_int (by omega) | exact SV.le_any _ | refine And.intro ?_ ?_)); done)⟩
   · exact ⟨(_, m ++ [⟨ky, f, min (f + u3) 4001, u4, u5, u6, u7⟩], min (f + u3) 4001 + u8, k + 1), ⟨⟨by omega, by show _ ≤ cc + 6 * ((k + 1 : Nat) : Int); omega, by show ((k + 1 : Nat) : Int) ≤ u2; omega⟩, allK_snoc q4 (by omega) (by show ky.length ≤ 8; rw [hky]; exact hkk), by show 0 ≤ min (f + u3) 4001 + u8; omega, by show min (f + u3) 4001 + u8 ≤ 5000; omega⟩, by show u2.toNat - (k + 1) < u2.toNat - k; omega,
      Entails.mk' [(1000000, 1000000), (3, 54)] rfl rfl ⟨lr, lr, lr, lr, lr, lr, lr, lr, lr, trivial⟩ ⟨rr, Res.le_snocF rfl, trivial⟩⟩
   · exact ⟨(d, m, i + 1), ⟨⟨by omega, by show _ ≤ a + 30 * ((i + 1 : Nat) : Int); omega, by omega⟩, allK_le q4 (by omega)⟩, by show 3 - (i + 1) < 3 - i; omega, (by (refine Entails.mk' [(1000000, 1000000), (3, 3)] rfl rfl ?_ ?_ <;> repeat' (first | exact True.intro | exact lr | exact rr | exact SV.le_int (by omega) | exact SV.le_any _ | refine And.intro ?_ ?_)); done)⟩
 · conv => whnf
   repeat' (first | (refine br_intro ?_ ?_ <;> intro hb <;> (try simp only [brs] at hb) <;> conv => whnf) | (refine RegX.rule (id := 12) hT rfl [] oUTmA105_12 (by decide +kernel) ?_; conv => whnf) | omega | (refine And.intro ?_ ?_; ((try dsimp only); first | omega | (refine szA rfl ?_; omega) | (refine szB rfl ?_; omega) | (unfold inI64; omega) | exact rfl | (simp only [List.toList_toArray, List.length_cons, List.length_nil]; omega) | (simp only [lns] at *; omega) | decide | (unfold inI64; decide)); conv => whnf) | decide | assumption)
   all_goals try (exfalso; omega)
   refine .ret _ ?_
   conv => whnf
   exact ⟨[(3, seqB 130 7 ratF rat0 l), (1000000, strm n L _)], ⟨l, b, allK_le p4 (by omega), ⟨by omega, by omega⟩, rfl, rfl⟩, rr, rr, trivial⟩
set_option maxHeartbeats 4000000 in
theorem yRates (n : Nat) (L : Nat → Int) (hL : Rok n L) (a : Int) (h0 : 0 ≤ a) (ha : a ≤ 2^35) :
 FSpec Tryz.prog 62 [.ptr 1000000 0] [(1000000, strm n L a)] (fun y r => (∃ l : List Rat, allK ratM 10 l ∧ y = .d (rats l)) ∧ Moved n L a 120 r) := by
 refine spec_of hT (C := []) Tryz.func62 rfl Tryz.call62 rfl rfl rfl ?_
 conv => whnf
 refine CallX.of (y169 n L hL _ ?_ ?_) [(1000000, 1000000), (3, 6)] rfl ⟨lr, trivial⟩ ⟨rr, trivial⟩ rfl rfl ?_
 rotate_right
 rintro x rout ⟨l, b, p4, ⟨p1, p2⟩, rfl, rfl⟩
 refine ⟨rfl, ?_⟩
 have hl1 : l.length ≤ 9 := p4.1
 conv => whnf
 repeat' (first | (refine CallX.of (s84 n L hL _ ?_ ?_ 12 ?_) [(1000000, 1000000)] rfl ⟨lr, lr, trivial⟩ ⟨rr, trivial⟩ rfl rfl ?_; rotate_right; rintro x rout ⟨⟨w, rfl⟩, ⟨c, c1, c2, rfl⟩⟩; refine ⟨rfl, ?_⟩; conv => whnf) | (refine CallX.of (s86 n L hL _ ?_ ?_ 4 ?_) [(1000000, 1000000)] rfl ⟨lr, lr, trivial⟩ ⟨rr, trivial⟩ rfl rfl ?_; rotate_right; rintro x rout ⟨⟨m, hm1, hm2, hm3, rfl⟩, ⟨c, c1, c2, rfl⟩⟩; refine ⟨rfl, ?_⟩; conv => whnf) | (refine CallX.of (s86 n L hL _ ?_ ?_ _ ?_) [(1000000, 1000000)] rfl ⟨lr, lr, trivial⟩ ⟨rr, trivial⟩ rfl rfl ?_; rotate_right; rintro x rout ⟨⟨j, hj1, hj2, hj3, rfl⟩, ⟨c, c1, c2, rfl⟩⟩; refine ⟨rfl, ?_⟩; conv => whnf) | (refine CallX.of (s15 n L hL _ ?_ ?_ [[], [65], [109, 105, 110, 105], [122, 101, 100]] (by simp) (by simp)) [(1000000, 1000000)] rfl ⟨lr, SV.le_lit rfl rfl, trivial⟩ ⟨rr, trivial⟩ rfl rfl ?_; rotate_right; rintro x rout ⟨⟨u1, hu1, rfl⟩, ⟨c, c1, c2, rfl⟩⟩; refine ⟨rfl, ?_⟩; conv => whnf) | (refine CallX.of (s104 n L hL _ ?_ ?_ 0 10 ?_ ?_ ?_) [(1000000, 1000000)] rfl ⟨lr, lr, lr, trivial⟩ ⟨rr, trivial⟩ rfl rfl ?_; rotate_right; rintro x rout ⟨⟨o1, ho1, ho2, rfl⟩, ⟨c, c1, c2, rfl⟩⟩; refine ⟨rfl, ?_⟩; conv => whnf) | (refine CallX.of (s104 n L hL _ ?_ ?_ 1 4001 ?_ ?_ ?_) [(1000000, 1000000)] rfl ⟨lr, lr, lr, trivial⟩ ⟨rr, trivial⟩ rfl rfl ?_; rotate_right; rintro x rout ⟨⟨o2, ho3, ho4, rfl⟩, ⟨c, c1, c2, rfl⟩⟩; refine ⟨rfl, ?_⟩; conv => whnf) | (refine CallX.of (s104 n L hL _ ?_ ?_ (-1) 1000000 ?_ ?_ ?_) [(1000000, 1000000)] rfl ⟨lr, lr, lr, trivial⟩ ⟨rr, trivial⟩ rfl rfl ?_; rotate_right; rintro x rout ⟨⟨o3, ho5, ho6, rfl⟩, ⟨c, c1, c2, rfl⟩⟩; refine ⟨rfl, ?_⟩; conv => whnf) | (refine br_intro ?_ ?_ <;> intro hb <;> (try simp only [brs] at hb) <;> conv => whnf) | omega | (refine And.intro ?_ ?_; ((try dsimp only); first | omega | (refine szA rfl ?_; omega) | (refine szB rfl ?_; omega) | (unfold inI64; omega) | exact rfl | (simp only [List.toList_toArray, List.length_cons, List.length_nil]; omega) | (simp only [lns] at *; omega) | decide | (unfold inI64; decide)); conv => whnf) | decide | assumption)
 all_goals try (exact h0)
 all_goals try omega
 · have hw1 : u1.length ≤ 8 := mem_len hu1 rfl
   refine .freeze _ 6 130 7 _ _ rfl (.weak _ ?_)
   conv => whnf
   exact ⟨.d (rats (updL l j.toNat rat0 fun y => { y with cls := u1 })), [(1000000, strm n L _)], SV.le_upd (fun y : Rat => { y with cls := u1 }) (fun _ => rfl), ⟨⟨_, allK_upd (g := fun y : Rat => { y with cls := u1 }) (allK_le p4 (by omega)) (fun y hy => hw1), rfl⟩, _, by omega, by omega, rfl⟩, rr, trivial⟩
 · refine .freeze _ 6 130 7 _ _ rfl (.weak _ ?_)
   conv => whnf
   have hrow := rows_updG (f := ratF) (d := rat0) (rows_updG (l := l) (j := j.toNat) (off := 1) (ds := [.int .i64 o1]) (fun _ _ => rfl) (fun y : Rat => { y with frm := o1 }) (fun _ => rfl)) (off := 2) (ds := [.int .i64 o2]) (j := j.toNat) (fun y : Rat => { y with to := o2 }) (fun _ => rfl)
   exact ⟨.d (rats (updL (updL l j.toNat rat0 fun y => { y with frm := o1 }) j.toNat rat0 fun y => { y with to := o2 })), [(1000000, strm n L _)], SV.le_ro (by simp) (fun i hi => hrow i (by simpa using hi)), ⟨⟨_, allK_upd (g := fun y : Rat => { y with to := o2 }) (allK_upd (g := fun y : Rat => { y with frm := o1 }) (allK_le p4 (by omega)) (fun y hy => hy)) (fun y hy => hy), rfl⟩, _, by omega, by omega, rfl⟩, rr, trivial⟩
 · refine .freeze _ 6 130 7 _ _ rfl (.weak _ ?_)
   conv => whnf
   exact ⟨.d (rats (updL l j.toNat rat0 fun y => { y with dy := o3 })), [(1000000, strm n L _)], SV.le_upd (fun y : Rat => { y with dy := o3 }) (fun _ => rfl), ⟨⟨_, allK_upd (g := fun y : Rat => { y with dy := o3 }) (allK_le p4 (by omega)) (fun y hy => hy), rfl⟩, _, by omega, by omega, rfl⟩, rr, trivial⟩
 · refine .freeze _ 27 130 7 _ _ rfl (.weak _ ?_)
   conv => whnf
   exact ⟨.d (rats (l ++ [l.getD 0 rat0])), [(1000000, strm n L _)], SV.le_ro (by simp) (rows_snocF rfl), ⟨⟨_, allK_snoc p4 (by omega) (p4.2 _ (getD_mem (by omega))), rfl⟩, _, by omega, by omega, rfl⟩, rr, trivial⟩
 all_goals
  refine .freeze _ 6 130 7 _ _ rfl (.weak _ ?_)
  conv => whnf
  exact ⟨.d (rats l), [(1000000, strm n L _)], lr, ⟨⟨_, allK_le p4 (by omega), rfl⟩, _, by omega, by omega, rfl⟩, rr, trivial⟩
def oUTmB64_6 : List (Nat × List Nat) := [(0, []), (1, [0]), (2, [0]), (3, [0, 1, 2]), (4, [0, 1, 2]), (5, [0, 1, 2, 3, 4]), (6, [0, 1, 2, 3, 4, 5]), (7, [0, 1, 2, 3, 4]), (8, [0]), (9, [0]), (10, []), (11, [])]
def extM (x : Ext) : Prop := x.key.length ≤ 8
def feM (x : Fe) : Prop := x.a.length ≤ 8 ∧ x.b.length ≤ 8
def codM (x : Cod) : Prop := x.key.length ≤ 8 ∧ x.cls.length ≤ 8
theorem ext_cut {e : List Ext} {g : Nat → List DV} {m : Int} (h0 : 0 ≤ m) (h2 : m ≤ 2) (hl : e.length = 2) (q0 : g 0 = extF (e.getD 0 ext0)) (q1 : g 1 = extF (e.getD 1 ext0)) : SV.le (.d (.ro 4 m.toNat g)) (.d (exts (e.take m.toNat))) :=
 SV.le_ro (by rw [List.length_take]; omega) (fun i hi => by
  have : i = 0 ∨ i = 1 := by omega
  simp only [rowF, getD_take hi]
  rcases this with rfl | rfl
  · exact q0
  · exact q1)
set_option maxHeartbeats 4000000 in
theorem yExtras (n : Nat) (L : Nat → Int) (hL : Rok n L) (a : Int) (h0 : 0 ≤ a) (ha : a ≤ 2^36) :
 FSpec Tryz.prog 63 [.ptr 1000000 0] [(1000000, strm n L a)] (fun y r => (∃ l : List Ext, allK extM 2 l ∧ y = .d (exts l)) ∧ Moved n L a 20 r) := by
 refine spec_of hT (C := [24]) Tryz.func63 rfl Tryz.call63 rfl rfl rfl ?_
 conv => whnf
 repeat' (first | (refine CallX.of (s33 n L hL _ ?_ ?_ [0, 5, 100] ?_ ?_) [(1000000, 1000000)] rfl ⟨lr, SV.le_lit rfl rfl, trivial⟩ ⟨rr, trivial⟩ rfl rfl ?_; rotate_right; rintro x rout ⟨⟨u1, hu1, rfl⟩, ⟨c, c1, c2, rfl⟩⟩; refine ⟨rfl, ?_⟩; conv => whnf) | (refine CallX.of (s33 n L hL _ ?_ ?_ [0, 2] ?_ ?_) [(1000000, 1000000)] rfl ⟨lr, SV.le_lit rfl rfl, trivial⟩ ⟨rr, trivial⟩ rfl rfl ?_; rotate_right; rintro x rout ⟨⟨u2, hu2, rfl⟩, ⟨c, c1, c2, rfl⟩⟩; refine ⟨rfl, ?_⟩; conv => whnf) | (refine CallX.of (s33 n L hL _ ?_ ?_ [-1, 0, 7] ?_ ?_) [(1000000, 1000000)] rfl ⟨lr, SV.le_lit rfl rfl, trivial⟩ ⟨rr, trivial⟩ rfl rfl ?_; rotate_right; rintro x rout ⟨⟨u3, hu3, rfl⟩, ⟨c, c1, c2, rfl⟩⟩; refine ⟨rfl, ?_⟩; conv => whnf) | (refine CallX.of (s33 n L hL _ ?_ ?_ [0, 10] ?_ ?_) [(1000000, 1000000)] rfl ⟨lr, SV.le_lit rfl rfl, trivial⟩ ⟨rr, trivial⟩ rfl rfl ?_; rotate_right; rintro x rout ⟨⟨u4, hu4, rfl⟩, ⟨c, c1, c2, rfl⟩⟩; refine ⟨rfl, ?_⟩; conv => whnf) | (refine CallX.of (s33 n L hL _ ?_ ?_ [0, 3, 50] ?_ ?_) [(1000000, 1000000)] rfl ⟨lr, SV.le_lit rfl rfl, trivial⟩ ⟨rr, trivial⟩ rfl rfl ?_; rotate_right; rintro x rout ⟨⟨u5, hu5, rfl⟩, ⟨c, c1, c2, rfl⟩⟩; refine ⟨rfl, ?_⟩; conv => whnf) | (refine CallX.of (s33 n L hL _ ?_ ?_ [-1, -1, 20, 1000] ?_ ?_) [(1000000, 1000000)] rfl ⟨lr, SV.le_lit rfl rfl, trivial⟩ ⟨rr, trivial⟩ rfl rfl ?_; rotate_right; rintro x rout ⟨⟨u6, hu6, rfl⟩, ⟨c, c1, c2, rfl⟩⟩; refine ⟨rfl, ?_⟩; conv => whnf) | (refine CallX.of (s84 n L hL _ ?_ ?_ 15 ?_) [(1000000, 1000000)] rfl ⟨lr, lr, trivial⟩ ⟨rr, trivial⟩ rfl rfl ?_; rotate_right; rintro x rout ⟨⟨w, rfl⟩, ⟨c, c1, c2, rfl⟩⟩; refine ⟨rfl, ?_⟩; conv => whnf) | (refine CallX.of (s15 n L hL _ ?_ ?_ [[], [65], [109, 97, 112], [115, 101, 97, 116]] (by simp) (by simp)) [(1000000, 1000000)] rfl ⟨lr, SV.le_lit rfl rfl, trivial⟩ ⟨rr, trivial⟩ rfl rfl ?_; rotate_right; rintro x rout ⟨⟨v1, hv1, rfl⟩, ⟨c, c1, c2, rfl⟩⟩; refine ⟨rfl, ?_⟩; conv => whnf) | (refine CallX.of (s104 n L hL _ ?_ ?_ 0 1000000 ?_ ?_ ?_) [(1000000, 1000000)] rfl ⟨lr, lr, lr, trivial⟩ ⟨rr, trivial⟩ rfl rfl ?_; rotate_right; rintro x rout ⟨⟨o1, ho1, ho2, rfl⟩, ⟨c, c1, c2, rfl⟩⟩; refine ⟨rfl, ?_⟩; conv => whnf) | (refine CallX.of (s104 n L hL _ ?_ ?_ (-1) 1000000 ?_ ?_ ?_) [(1000000, 1000000)] rfl ⟨lr, lr, lr, trivial⟩ ⟨rr, trivial⟩ rfl rfl ?_; rotate_right; rintro x rout ⟨⟨o2, ho3, ho4, rfl⟩, ⟨c, c1, c2, rfl⟩⟩; refine ⟨rfl, ?_⟩; conv => whnf) | (refine CallX.of (s33 n L hL _ ?_ ?_ [0, 1, 2, 2] ?_ ?_) [(1000000, 1000000)] rfl ⟨lr, SV.le_lit rfl rfl, trivial⟩ ⟨rr, trivial⟩ rfl rfl ?_; rotate_right; rintro x rout ⟨⟨m, hm, rfl⟩, ⟨c, c1, c2, rfl⟩⟩; have hm2 : 0 ≤ m ∧ m ≤ 2 := (by simp only [List.mem_cons, List.not_mem_nil, or_false] at hm; omega); refine ⟨rfl, ?_⟩; conv => whnf) | (refine SliceX.first (lo := none) rfl ?_; conv => whnf) | (refine br_intro ?_ ?_ <;> intro hb <;> (try simp only [brs] at hb) <;> conv => whnf) | omega | (refine And.intro ?_ ?_; ((try dsimp only); first | omega | (refine szA rfl ?_; omega) | (refine szB rfl ?_; omega) | (unfold inI64; omega) | exact rfl | (simp only [List.toList_toArray, List.length_cons, List.length_nil]; omega) | (simp only [lns] at *; omega) | decide | (unfold inI64; decide)); conv => whnf) | decide | assumption)
 all_goals try (exact h0)
 all_goals try omega
 · have hw : v1.length ≤ 8 := mem_len hv1 rfl
   refine .freeze _ 41 132 4 _ _ rfl (.weak _ ?_)
   conv => whnf
   refine ⟨.d (exts (([⟨[109, 97, 112], u1, u2, u3⟩, ⟨v1, o1, 0, o2⟩] : List Ext).take m.toNat)), [(1000000, strm n L _)], ext_cut hm2.1 hm2.2 rfl rfl rfl, ⟨⟨_, ⟨by rw [List.length_take]; exact Nat.min_le_right _ _, fun x hx => ?_⟩, rfl⟩, _, by omega, by omega, rfl⟩, rr, trivial⟩
   have hx := List.mem_of_mem_take hx
   simp only [List.mem_cons, List.not_mem_nil, or_false] at hx
   rcases hx with rfl | rfl
   · show ([109, 97, 112] : List UInt8).length ≤ 8; decide
   · exact hw
 · refine .freeze _ 41 132 4 _ _ rfl (.weak _ ?_)
   conv => whnf
   refine ⟨.d (exts (([⟨[109, 97, 112], u1, u2, u3⟩, ⟨[115, 101, 97, 116], u4, u5, u6⟩] : List Ext).take m.toNat)), [(1000000, strm n L _)], ext_cut hm2.1 hm2.2 rfl rfl rfl, ⟨⟨_, ⟨by rw [List.length_take]; exact Nat.min_le_right _ _, fun x hx => ?_⟩, rfl⟩, _, by omega, by omega, rfl⟩, rr, trivial⟩
   have hx := List.mem_of_mem_take hx
   simp only [List.mem_cons, List.not_mem_nil, or_false] at hx
   rcases hx with rfl | rfl
   · show ([109, 97, 112] : List UInt8).length ≤ 8; decide
   · show ([115, 101, 97, 116] : List UInt8).length ≤ 8; decide
def p2F (p : List UInt8 × List UInt8) : List DV := [.str p.1, .str p.2]
def f4 : List (List UInt8 × List UInt8) := [([115, 49], [115, 50]), ([115, 49], [115, 51]), ([115, 50], [115, 49]), ([115, 51], [115, 50])]
theorem f4_len (i : Nat) : (f4.getD i ([], [])).1.length ≤ 8 ∧ (f4.getD i ([], [])).2.length ≤ 8 := by
 match i with
 | 0 => decide
 | 1 => decide
 | 2 => decide
 | 3 => decide
 | i + 4 => simp [f4]
set_option maxHeartbeats 4000000 in
theorem yFees (n : Nat) (L : Nat → Int) (hL : Rok n L) (a : Int) (h0 : 0 ≤ a) (ha : a ≤ 2^36) :
 FSpec Tryz.prog 64 [.ptr 1000000 0] [(1000000, strm n L a)] (fun y r => (∃ l : List Fe, allK feM 5 l ∧ y = .d (fes l)) ∧ Moved n L a 20 r) := by
 refine spec_of hT (C := []) Tryz.func64 rfl Tryz.call64 rfl rfl rfl ?_
 conv => whnf
 refine LoopX.rule hT (C := []) (ι := Int × List Fe × Nat) (fun (b, l, i) => (a ≤ b ∧ b ≤ a + 2 * i ∧ i ≤ 4) ∧ allK feM i l)
  (fun (b, l, i) => mkSt [(0, .ptr 1000000 0), (3, .buf 3), (10, .d (seqD 2 p2F ([], []) f4)), (11, .d (.int .i64 4)), (12, .d (.int .i64 i))] [(1000000, strm n L b), (3, seqB 136 3 feF fe0 l)])
  (fun (_, _, i) => 4 - i) (a, [], 0) ⟨⟨by simp, by simp, by simp⟩, ⟨by simp, by simp⟩⟩ ?_ ?_
 · refine (Entails.nil 3 3 136 3 (rowF feF fe0 []) rfl rfl (by decide)).trans (Entails.mk' [(1000000, 1000000), (3, 3)] rfl rfl ⟨lr, lr, SV.le_lit rfl rfl, lr, lr, trivial⟩ ⟨rr, rr, trivial⟩)
 rintro ⟨b, l, i⟩ ⟨⟨p1, p2, p3⟩, p4⟩
 have p1 : a ≤ b := p1
 have p2 : b ≤ a + 2 * i := p2
 have p3 : i ≤ 4 := p3
 have p4 : allK feM i l := p4
 have hc3 : f4.length = 4 := rfl
 have hl1 : l.length ≤ i := p4.1
 have e1 : (i : Int).toNat = i := Int.toNat_natCast i
 have hf := f4_len (i : Int).toNat
 conv => whnf
 repeat' (first | (refine CallX.of (s84 n L hL _ ?_ ?_ 3 ?_) [(1000000, 1000000)] rfl ⟨lr, lr, trivial⟩ ⟨rr, trivial⟩ rfl rfl ?_; rotate_right; rintro x rout ⟨⟨w, rfl⟩, ⟨c, c1, c2, rfl⟩⟩; refine ⟨rfl, ?_⟩; conv => whnf) | (refine CallX.of (s33 n L hL _ ?_ ?_ [0, 40, 700] ?_ ?_) [(1000000, 1000000)] rfl ⟨lr, SV.le_lit rfl rfl, trivial⟩ ⟨rr, trivial⟩ rfl rfl ?_; rotate_right; rintro x rout ⟨⟨u1, hu1, rfl⟩, ⟨c, c1, c2, rfl⟩⟩; refine ⟨rfl, ?_⟩; conv => whnf) | (refine CallX.of (s84 n L hL _ ?_ ?_ 15 ?_) [(1000000, 1000000)] rfl ⟨lr, lr, trivial⟩ ⟨rr, trivial⟩ rfl rfl ?_; rotate_right; rintro x rout ⟨⟨w2, rfl⟩, ⟨c, c1, c2, rfl⟩⟩; refine ⟨rfl, ?_⟩; conv => whnf) | (refine CallX.of (s15 n L hL _ ?_ ?_ [[115, 51], [65], [115, 49]] (by simp) (by simp)) [(1000000, 1000000)] rfl ⟨lr, SV.le_lit rfl rfl, trivial⟩ ⟨rr, trivial⟩ rfl rfl ?_; rotate_right; rintro x rout ⟨⟨v1, hv1, rfl⟩, ⟨c, c1, c2, rfl⟩⟩; refine ⟨rfl, ?_⟩; conv => whnf) | (refine CallX.of (s15 n L hL _ ?_ ?_ [[115, 51], [115, 57], []] (by simp) (by simp)) [(1000000, 1000000)] rfl ⟨lr, SV.le_lit rfl rfl, trivial⟩ ⟨rr, trivial⟩ rfl rfl ?_; rotate_right; rintro x rout ⟨⟨v2, hv2, rfl⟩, ⟨c, c1, c2, rfl⟩⟩; refine ⟨rfl, ?_⟩; conv => whnf) | (refine CallX.of (s104 n L hL _ ?_ ?_ 0 1000000 ?_ ?_ ?_) [(1000000, 1000000)] rfl ⟨lr, lr, lr, trivial⟩ ⟨rr, trivial⟩ rfl rfl ?_; rotate_right; rintro x rout ⟨⟨o1, ho1, ho2, rfl⟩, ⟨c, c1, c2, rfl⟩⟩; refine ⟨rfl, ?_⟩; conv => whnf) | (refine br_intro ?_ ?_ <;> intro hb <;> (try simp only [brs] at hb) <;> conv => whnf) | (refine RegX.rule (id := 6) hT rfl [] oUTmB64_6 (by decide +kernel) ?_; conv => whnf) | omega | (refine And.intro ?_ ?_; ((try dsimp only); first | omega | (refine szA rfl ?_; omega) | (refine szB rfl ?_; omega) | (unfold inI64; omega) | exact rfl | (simp only [List.toList_toArray, List.length_cons, List.length_nil]; omega) | (simp only [lns] at *; omega) | decide | (unfold inI64; decide)); conv => whnf) | decide | assumption)
 all_goals try (exact h0)
 all_goals try omega
 · exact ⟨(c, l ++ [⟨(f4.getD (i : Int).toNat ([], [])).1, (f4.getD (i : Int).toNat ([], [])).2, u1⟩], i + 1), ⟨⟨by omega, by show _ ≤ a + 2 * ((i + 1 : Nat) : Int); omega, by omega⟩, allK_snoc p4 (by omega) (show feM ⟨(f4.getD (i : Int).toNat ([], [])).1, (f4.getD (i : Int).toNat ([], [])).2, u1⟩ from hf)⟩, by show 4 - (i + 1) < 4 - i; omega,
    Entails.mk' [(1000000, 1000000), (3, 29)] rfl rfl ⟨lr, lr, lr, lr, lr, trivial⟩ ⟨rr, Res.le_snocF rfl, trivial⟩⟩
 · exact ⟨(c, l, i + 1), ⟨⟨by omega, by show _ ≤ a + 2 * ((i + 1 : Nat) : Int); omega, by omega⟩, allK_le p4 (by omega)⟩, by show 4 - (i + 1) < 4 - i; omega, (by (refine Entails.mk' [(1000000, 1000000), (3, 3)] rfl rfl ?_ ?_ <;> repeat' (first | exact True.intro | exact lr | exact rr | exact SV.le_int (by omega) | exact SV.le_any _ | refine And.intro ?_ ?_)); done)⟩
 · refine .freeze _ 44 136 3 _ _ rfl (.weak _ ?_)
   conv => whnf
   exact ⟨.d (fes (l ++ [⟨v1, v2, o1⟩])), [(1000000, strm n L _)], SV.le_ro (by simp) (rows_snocF rfl), ⟨⟨_, allK_snoc p4 (by omega) ⟨mem_len hv1 rfl, mem_len hv2 rfl⟩, rfl⟩, _, by omega, by omega, rfl⟩, rr, trivial⟩
 · refine .freeze _ 3 136 3 _ _ rfl (.weak _ ?_)
   conv => whnf
   exact ⟨.d (fes l), [(1000000, strm n L _)], lr, ⟨⟨_, allK_le p4 (by omega), rfl⟩, _, by omega, by omega, rfl⟩, rr, trivial⟩
def k3 : List (List UInt8) := [[97, 49, 48], [98, 50, 48], [99, 51, 48]]
set_option maxHeartbeats 4000000 in
theorem yCodes (n : Nat) (L : Nat → Int) (hL : Rok n L) (a : Int) (h0 : 0 ≤ a) (ha : a ≤ 2^36) :
 FSpec Tryz.prog 65 [.ptr 1000000 0] [(1000000, strm n L a)] (fun y r => (∃ l : List Cod, allK codM 3 l ∧ y = .d (cods l)) ∧ Moved n L a 40 r) := by
 refine spec_of hT (C := []) Tryz.func65 rfl Tryz.call65 rfl rfl rfl ?_
 conv => whnf
 refine LoopX.rule hT (C := []) (ι := Int × List Cod × Nat) (fun (b, l, i) => (a ≤ b ∧ b ≤ a + 8 * i ∧ i ≤ 3) ∧ allK codM i l)
  (fun (b, l, i) => mkSt [(0, .ptr 1000000 0), (3, .buf 3), (8, .d (strs k3)), (9, .d (.int .i64 3)), (10, .d (.int .i64 i))] [(1000000, strm n L b), (3, seqB 138 6 codF cod0 l)])
  (fun (_, _, i) => 3 - i) (a, [], 0) ⟨⟨by simp, by simp, by simp⟩, ⟨by simp, by simp⟩⟩ ?_ ?_
 · refine (Entails.nil 3 3 138 6 (rowF codF cod0 []) rfl rfl (by decide)).trans (Entails.mk' [(1000000, 1000000), (3, 3)] rfl rfl ⟨lr, lr, SV.le_lit rfl rfl, lr, lr, trivial⟩ ⟨rr, rr, trivial⟩)
 rintro ⟨b, l, i⟩ ⟨⟨p1, p2, p3⟩, p4⟩
 have p1 : a ≤ b := p1
 have p2 : b ≤ a + 8 * i := p2
 have p3 : i ≤ 3 := p3
 have p4 : allK codM i l := p4
 have hc3 : k3.length = 3 := rfl
 have hl1 : l.length ≤ i := p4.1
 have hkk : (i : Int) < 3 → (k3.getD (i : Int).toNat []).length ≤ 8 := fun h => mem_len (getD_mem (by omega)) rfl
 conv => whnf
 repeat' (first | (refine CallX.of (s84 n L hL _ ?_ ?_ 4 ?_) [(1000000, 1000000)] rfl ⟨lr, lr, trivial⟩ ⟨rr, trivial⟩ rfl rfl ?_; rotate_right; rintro x rout ⟨⟨w, rfl⟩, ⟨c, c1, c2, rfl⟩⟩; refine ⟨rfl, ?_⟩; conv => whnf) | (refine CallX.of (s33 n L hL _ ?_ ?_ [0, 0, 3] ?_ ?_) [(1000000, 1000000)] rfl ⟨lr, SV.le_lit rfl rfl, trivial⟩ ⟨rr, trivial⟩ rfl rfl ?_; rotate_right; rintro x rout ⟨⟨u1, hu1, rfl⟩, ⟨c, c1, c2, rfl⟩⟩; have hw1 := pkD hu1 (by decide); refine ⟨rfl, ?_⟩; conv => whnf) | (refine CallX.of (s15 n L hL _ ?_ ?_ [[], [], [109, 105, 110, 105]] (by simp) (by simp)) [(1000000, 1000000)] rfl ⟨lr, SV.le_lit rfl rfl, trivial⟩ ⟨rr, trivial⟩ rfl rfl ?_; rotate_right; rintro x rout ⟨⟨v1, hv1, rfl⟩, ⟨c, c1, c2, rfl⟩⟩; refine ⟨rfl, ?_⟩; conv => whnf) | (refine CallX.of (s33 n L hL _ ?_ ?_ [0, 1, 10, 3000] ?_ ?_) [(1000000, 1000000)] rfl ⟨lr, SV.le_lit rfl rfl, trivial⟩ ⟨rr, trivial⟩ rfl rfl ?_; rotate_right; rintro x rout ⟨⟨u2, hu2, rfl⟩, ⟨c, c1, c2, rfl⟩⟩; have hw2 := pkD hu2 (by decide); refine ⟨rfl, ?_⟩; conv => whnf) | (refine CallX.of (s33 n L hL _ ?_ ?_ [1, 1, 2, 5] ?_ ?_) [(1000000, 1000000)] rfl ⟨lr, SV.le_lit rfl rfl, trivial⟩ ⟨rr, trivial⟩ rfl rfl ?_; rotate_right; rintro x rout ⟨⟨u3, hu3, rfl⟩, ⟨c, c1, c2, rfl⟩⟩; refine ⟨rfl, ?_⟩; conv => whnf) | (refine CallX.of (s33 n L hL _ ?_ ?_ [1, 100, 100, 250, 1000] ?_ ?_) [(1000000, 1000000)] rfl ⟨lr, SV.le_lit rfl rfl, trivial⟩ ⟨rr, trivial⟩ rfl rfl ?_; rotate_right; rintro x rout ⟨⟨u4, hu4, rfl⟩, ⟨c, c1, c2, rfl⟩⟩; refine ⟨rfl, ?_⟩; conv => whnf) | (refine CallX.of (s84 n L hL _ ?_ ?_ 15 ?_) [(1000000, 1000000)] rfl ⟨lr, lr, trivial⟩ ⟨rr, trivial⟩ rfl rfl ?_; rotate_right; rintro x rout ⟨⟨w2, rfl⟩, ⟨c, c1, c2, rfl⟩⟩; refine ⟨rfl, ?_⟩; conv => whnf) | (refine CallX.of (s86 n L hL _ ?_ ?_ _ ?_) [(1000000, 1000000)] rfl ⟨lr, lr, trivial⟩ ⟨rr, trivial⟩ rfl rfl ?_; rotate_right; rintro x rout ⟨⟨j, hj1, hj2, hj3, rfl⟩, ⟨c, c1, c2, rfl⟩⟩; refine ⟨rfl, ?_⟩; conv => whnf) | (refine CallX.of (s15 n L hL _ ?_ ?_ [(l.getD j.toNat cod0).key, [], [122, 101, 100], [97, 49, 48]] (by simp) (by simp)) [(1000000, 1000000)] rfl ⟨lr, SV.le_lit rfl rfl, trivial⟩ ⟨rr, trivial⟩ rfl rfl ?_; rotate_right; rintro x rout ⟨⟨v2, hv2, rfl⟩, ⟨c, c1, c2, rfl⟩⟩; refine ⟨rfl, ?_⟩; conv => whnf) | (refine CallX.of (s104 n L hL _ ?_ ?_ 1 120 ?_ ?_ ?_) [(1000000, 1000000)] rfl ⟨lr, lr, lr, trivial⟩ ⟨rr, trivial⟩ rfl rfl ?_; rotate_right; rintro x rout ⟨⟨o1, ho1, ho2, rfl⟩, ⟨c, c1, c2, rfl⟩⟩; refine ⟨rfl, ?_⟩; conv => whnf) | (refine CallX.of (s104 n L hL _ ?_ ?_ 1 1000 ?_ ?_ ?_) [(1000000, 1000000)] rfl ⟨lr, lr, lr, trivial⟩ ⟨rr, trivial⟩ rfl rfl ?_; rotate_right; rintro x rout ⟨⟨o2, ho3, ho4, rfl⟩, ⟨c, c1, c2, rfl⟩⟩; refine ⟨rfl, ?_⟩; conv => whnf) | (refine br_intro ?_ ?_ <;> intro hb <;> (try simp only [brs] at hb) <;> conv => whnf) | omega | (refine And.intro ?_ ?_; ((try dsimp only); first | omega | (refine szA rfl ?_; omega) | (refine szB rfl ?_; omega) | (unfold inI64; omega) | exact rfl | (simp only [List.toList_toArray, List.length_cons, List.length_nil]; omega) | (simp only [lns] at *; omega) | decide | (unfold inI64; decide)); conv => whnf) | decide | assumption)
 all_goals try (exact h0)
 all_goals try omega
 · exact ⟨(c, l, i + 1), ⟨⟨by omega, by show _ ≤ a + 8 * ((i + 1 : Nat) : Int); omega, by omega⟩, allK_le p4 (by omega)⟩, by show 3 - (i + 1) < 3 - i; omega, (by (refine Entails.mk' [(1000000, 1000000), (3, 3)] rfl rfl ?_ ?_ <;> repeat' (first | exact True.intro | exact lr | exact rr | exact SV.le_int (by omega) | exact SV.le_any _ | refine And.intro ?_ ?_)); done)⟩
 · exact ⟨(c, l ++ [⟨k3.getD (i : Int).toNat [], v1, u1, u1 + u2, u3, u4⟩], i + 1), ⟨⟨by omega, by show _ ≤ a + 8 * ((i + 1 : Nat) : Int); omega, by omega⟩, allK_snoc p4 (by omega) ⟨hkk (by omega), mem_len hv1 rfl⟩⟩, by show 3 - (i + 1) < 3 - i; omega,
    Entails.mk' [(1000000, 1000000), (3, 38)] rfl rfl ⟨lr, lr, lr, lr, lr, trivial⟩ ⟨rr, Res.le_snocF rfl, trivial⟩⟩
 · have hv : v2.length ≤ 8 := by
    simp only [List.mem_cons, List.not_mem_nil, or_false] at hv2
    rcases hv2 with rfl | rfl | rfl | rfl
    · exact (p4.2 _ (getD_mem (by omega))).1
    · decide
    · decide
    · decide
   refine .freeze _ 3 138 6 _ _ rfl (.weak _ ?_)
   conv => whnf
   have hrow := rows_updG (f := codF) (d := cod0) (rows_updG (rows_updG (l := l) (j := j.toNat) (off := 0) (ds := [.str v2]) (fun _ _ => rfl) (fun y : Cod => { y with key := v2 }) (fun _ => rfl)) (off := 4) (ds := [.int .i64 o1]) (j := j.toNat) (fun y : Cod => { y with days := o1 }) (fun _ => rfl)) (off := 5) (ds := [.int .i64 o2]) (j := j.toNat) (fun y : Cod => { y with per := o2 }) (fun _ => rfl)
   exact ⟨.d (cods (updL (updL (updL l j.toNat cod0 fun y => { y with key := v2 }) j.toNat cod0 fun y => { y with days := o1 }) j.toNat cod0 fun y => { y with per := o2 })), [(1000000, strm n L _)], SV.le_ro (by simp) (fun i hi => hrow i (by simpa using hi)), ⟨⟨_, allK_upd (g := fun y : Cod => { y with per := o2 }) (allK_upd (g := fun y : Cod => { y with days := o1 }) (allK_upd (g := fun y : Cod => { y with key := v2 }) (allK_le p4 (by omega)) (fun y hy => ⟨hv, hy.2⟩)) (fun y hy => hy)) (fun y hy => hy), rfl⟩, _, by omega, by omega, rfl⟩, rr, trivial⟩
 all_goals
  refine .freeze _ 3 138 6 _ _ rfl (.weak _ ?_)
  conv => whnf
  exact ⟨.d (cods l), [(1000000, strm n L _)], lr, ⟨⟨_, allK_le p4 (by omega), rfl⟩, _, by omega, by omega, rfl⟩, rr, trivial⟩
end Go.Proofs.YtobgeiclibhiiaaGreatDoor
namespace Go.Eng
open Go
variable {A : Amb} {G : Hp} {β : Env} {s : St} {t : Array Value} {w : World}
theorem Entails.bunchNew (e k : Nat) (hk : 0 < k) (hu : s.used 999999 = false) : Entails s (s.app ⟨none, .any, [(999999, some (.bunch e k []))], [999999]⟩) := by
 refine ⟨fun A a w => ?_⟩
 rintro ⟨h0, G, β, h⟩
 exact ⟨h0, G, _, h.bunchNew hk hu⟩
theorem MG.bunchFreeAll {q e k : Nat} : ∀ (l : List (Value × Nat × (Nat → List DV))) {G : Hp} {s : St}, MG A G β s t w → s.res q = some (.bunch e k l) →
 ∃ G', G.le G' ∧ (∀ p ∈ l, DV.Den G' (.ro k p.2.1 p.2.2) p.1) ∧ MG A G' β (s.app ⟨none, .any, [(q, some (.bunch e k []))], []⟩) t w := by
 intro l
 induction l with
 | nil =>
   intro G s h hq
   refine ⟨G, Hp.le_refl G, fun p hp => (by cases hp), ?_⟩
   have : s.app ⟨none, .any, [(q, some (.bunch e k []))], []⟩ = s := by
    cases s with
    | mk tm rs us =>
      simp only [St.app, St.mk.injEq]
      refine ⟨rfl, ?_, rfl⟩
      funext x
      simp only [putR_apply, lookR]
      by_cases c : x = q
      · subst c; simpa using hq.symm
      · rw [nbeq_ne c]; rfl
   rw [this]; exact h
 | cons p l ih =>
   obtain ⟨v, n, get⟩ := p
   intro G s h hq
   obtain ⟨G1, h1, h2, h3⟩ := h.bunchFree hq
   obtain ⟨G2, k1, k2, k3⟩ := ih h3 (by simp [St.app, putR_apply, lookR])
   refine ⟨G2, Hp.le_trans h1 k1, fun p hp => ?_, ?_⟩
   · rcases List.mem_cons.1 hp with rfl | hp
     · exact h2.mono k1
     · exact k2 p hp
   · have : (s.app ⟨none, .any, [(q, some (.bunch e k l))], []⟩).app ⟨none, .any, [(q, some (.bunch e k []))], []⟩ = s.app ⟨none, .any, [(q, some (.bunch e k []))], []⟩ := by
      simp only [St.app, St.mk.injEq]
      refine ⟨rfl, ?_, rfl⟩
      funext x
      simp only [putR_apply, lookR]
      by_cases c : x = q
      · subst c; simp
      · rw [nbeq_ne c]; rfl
     rw [this] at k3; exact k3
theorem Entails.bunchFro {q e k e2 k2 N : Nat} {l : List (Value × Nat × (Nat → List DV))} {get : Nat → List DV} (get' : Nat → List DV) (hb : s.res 999999 = some (.bunch e k l)) (hq : s.res q = some (.buf e2 k2 N get))
 (hl : ∀ i, i < N → (get' i).length = (get i).length)
 (hg : ∀ (i j : Nat) (x : DV), i < N → (get' i)[j]? = some x → (get i)[j]? = some x ∨ ∃ p ∈ l, (get i)[j]? = some (.opq p.1) ∧ ∀ G v, DV.Den G (.ro k p.2.1 p.2.2) v → DV.Den G x v) :
 Entails s (s.app ⟨none, .any, [(999999, none), (q, some (.buf e2 k2 N get'))], []⟩) := by
 refine ⟨fun A a w => ?_⟩
 rintro ⟨h0, G, β, h⟩
 obtain ⟨G', h1, h2, h3⟩ := MG.bunchFreeAll l h hb
 have hne : ¬ q = 999999 := fun c => by rw [c, hb] at hq; cases hq
 have hq1 : (s.app ⟨none, .any, [(999999, some (.bunch e k []))], []⟩).res q = some (.buf e2 k2 N get) := by
  simp only [St.app, putR_apply, lookR]; rw [nbeq_ne hne]; exact hq
 obtain ⟨v, xs, hv, hown, hk, hlen, hden⟩ := h3.rs _ _ hq1
 have h4 := h3.changeG (r' := .buf e2 k2 N get') hq1 rfl hv rfl rfl rfl rfl (fun _ _ => rfl) (fun b hb => hb.to rfl) ⟨v, xs, hv, hown, hk, fun i hi => (hl i hi).trans (hlen i hi), fun i j x hi hx => by
  rcases hg i j x hi hx with c | ⟨p, hp, c, hx⟩
  · exact hden i j x hi c
  · obtain ⟨u, hu, hd⟩ := hden i j _ hi c
    cases hd with | opq _ _ => exact ⟨_, hu, hx _ _ (h2 p hp)⟩⟩
 have h5 := h4.drop 999999
 refine ⟨h0, G', β, ?_⟩
 have : ((s.app ⟨none, .any, [(999999, some (.bunch e k []))], []⟩).app ⟨none, .any, [(q, some (.buf e2 k2 N get'))], []⟩).app ⟨none, .any, [(999999, none)], []⟩ = s.app ⟨none, .any, [(999999, none), (q, some (.buf e2 k2 N get'))], []⟩ := by
  simp only [St.app, St.mk.injEq]
  refine ⟨rfl, ?_, rfl⟩
  funext x
  simp only [putR_apply, lookR]
  by_cases c : x = 999999
  · subst c; simp
  · rw [nbeq_ne c]
    by_cases d : x = q
    · subst d; simp
    · rw [nbeq_ne d]; rfl
 rw [← this]; exact h5
end Go.Eng
set_option maxRecDepth 20000
namespace Go.Proofs.YtobgeiclibhiiaaGreatDoor
open Go Go.Eng
def oUTmC66_18 : List (Nat × List Nat) := [(0, []), (1, [0]), (2, [0]), (3, [0]), (4, [0]), (5, [0, 1, 2, 3, 4]), (6, [0, 1, 2, 3, 4, 5]), (7, [0, 1, 2, 3, 4]), (8, [0, 1, 2, 3, 4]), (9, [0]), (10, []), (11, []), (12, [])]
def taxM (x : Tax) : Prop := x.key.length ≤ 8 ∧ x.on.length ≤ 8
structure BTx where
 key : List UInt8
 per : Int
 v : Value
 on : List Int
 over : Bool
def btF (x : BTx) : List DV := [.str x.key, .int .i64 x.per, .opq x.v, .bool x.over]
def bt0 : BTx := ⟨[], 0, .nilFunc, [], false⟩
def bM (x : BTx) : Prop := x.key.length ≤ 8 ∧ x.on.length ≤ 5
def bT (x : BTx) : Tax := ⟨x.key, x.per, x.on, x.over⟩
def bE (x : BTx) : Value × Nat × (Nat → List DV) := (x.v, x.on.length, rowF iF 0 x.on)
def bL (l : List BTx) : List (Value × Nat × (Nat → List DV)) := (l.map bE).reverse
theorem bL_snoc (l : List BTx) (x : BTx) : bL (l ++ [x]) = bE x :: bL l := by simp [bL]
theorem bL_mem {l : List BTx} {x : BTx} (h : x ∈ l) : bE x ∈ bL l := by
 unfold bL; rw [List.mem_reverse]; exact List.mem_map.2 ⟨x, h, rfl⟩
theorem bL_split (l : List BTx) {j : Nat} (h : j < l.length) : ∃ A B, bL l = A ++ bE (l.getD j bt0) :: B ∧ ∀ x, ∀ t ∈ l.set j x, t = x ∨ bE t ∈ A ++ B := by
 have e : l = l.take j ++ l.getD j bt0 :: l.drop (j + 1) := by
  rw [List.getD_eq_getElem?_getD, List.getElem?_eq_getElem h, Option.getD_some, ← List.drop_eq_getElem_cons h, List.take_append_drop]
 refine ⟨((l.drop (j + 1)).map bE).reverse, ((l.take j).map bE).reverse, ?_, fun x t ht => ?_⟩
 · conv => lhs; rw [e]
   simp [bL]
 · rw [List.set_eq_take_append_cons_drop, if_pos h] at ht
   rcases List.mem_append.1 ht with q | q
   · exact .inr (List.mem_append.2 (.inr (by rw [List.mem_reverse]; exact List.mem_map.2 ⟨t, q, rfl⟩)))
   · rcases List.mem_cons.1 q with q | q
     · exact .inl q
     · exact .inr (List.mem_append.2 (.inl (by rw [List.mem_reverse]; exact List.mem_map.2 ⟨t, q, rfl⟩)))
theorem tax_fro {s : St} {q N : Nat} {Bn : List (Value × Nat × (Nat → List DV))} {get : Nat → List DV} (hb : s.res 999999 = some (.bunch 3 1 Bn)) (hq : s.res q = some (.buf 141 4 N get)) (l : List BTx) (hN : N = l.length) (hg : ∀ i, i < N → get i = rowF btF bt0 l i)
 (hB : ∀ t ∈ l, ∃ p ∈ Bn, p.1 = t.v ∧ p.2.1 = t.on.length ∧ ∀ i, i < p.2.1 → p.2.2 i = rowF iF 0 t.on i) :
 Entails s (s.app ⟨none, .any, [(999999, none), (q, some (.buf 141 4 N (rowF taxF tax0 (l.map bT))))], []⟩) := by
 have hrow : ∀ i, i < N → rowF taxF tax0 (l.map bT) i = taxF (bT (l.getD i bt0)) := fun i hi => by
  unfold rowF
  congr 1
  rw [List.getD_eq_getElem?_getD, List.getElem?_map, List.getD_eq_getElem?_getD, List.getElem?_eq_getElem (by omega)]
  rfl
 refine Entails.bunchFro _ hb hq (fun i hi => by rw [hrow i hi, hg i hi]; rfl) (fun i j x hi hx => ?_)
 rw [hrow i hi] at hx
 rw [hg i hi]
 obtain ⟨t, ht⟩ : ∃ t, t = l.getD i bt0 := ⟨_, rfl⟩
 have hm : t ∈ l := by rw [ht]; exact getD_mem (by omega)
 show (btF (l.getD i bt0))[j]? = some x ∨ ∃ p ∈ Bn, (btF (l.getD i bt0))[j]? = some (.opq p.1) ∧ ∀ G v, DV.Den G (.ro 1 p.2.1 p.2.2) v → DV.Den G x v
 rw [← ht] at hx ⊢
 match j with
 | 0 => exact .inl hx
 | 1 => exact .inl hx
 | 3 => exact .inl hx
 | 2 =>
   obtain ⟨p, hp, h1, h2, h3⟩ := hB t hm
   cases hx
   exact .inr ⟨p, hp, by rw [h1]; rfl, fun G v hv => DV.ro_ext h2 h3 hv⟩
 | j + 4 => cases hx
def tk3 : List (List UInt8) := [[99, 105, 116, 121], [115, 116, 97, 116, 101], [118, 97, 116]]
theorem taxM_map {l : List BTx} {k : Nat} (hl : l.length ≤ k) (h : ∀ t ∈ l, t.key.length ≤ 8 ∧ t.on.length ≤ 8) : allK taxM k (l.map bT) :=
 ⟨by rw [List.length_map]; exact hl, fun x hx => by
   obtain ⟨t, ht, rfl⟩ := List.mem_map.1 hx
   exact h t ht⟩
set_option maxHeartbeats 4000000 in
theorem yTaxes (n : Nat) (L : Nat → Int) (hL : Rok n L) (a : Int) (h0 : 0 ≤ a) (ha : a ≤ 2^36) :
 FSpec Tryz.prog 66 [.ptr 1000000 0] [(1000000, strm n L a)] (fun y r => (∃ l : List Tax, allK taxM 3 l ∧ y = .d (taxs l)) ∧ Moved n L a 50 r) := by
 refine spec_of hT (C := []) Tryz.func66 rfl Tryz.call66 rfl rfl rfl ?_
 conv => whnf
 refine LoopX.rule hT (C := []) (ι := Int × List BTx × Nat) (fun (b, l, i) => (a ≤ b ∧ b ≤ a + 10 * i ∧ i ≤ 3) ∧ allK bM i l)
  (fun (b, l, i) => mkSt [(0, .ptr 1000000 0), (3, .buf 3), (10, .d (strs tk3)), (11, .d (.int .i64 3)), (12, .d (.int .i64 i))] [(1000000, strm n L b), (3, seqB 141 4 btF bt0 l), (999999, .bunch 3 1 (bL l))])
  (fun (_, _, i) => 3 - i) (a, [], 0) ⟨⟨by simp, by simp, by simp⟩, ⟨by simp, by simp⟩⟩ ?_ ?_
 · refine (Entails.bunchNew 3 1 (by decide) rfl).trans ((Entails.nil 3 3 141 4 (rowF btF bt0 []) rfl rfl (by decide)).trans (Entails.mk' [(1000000, 1000000), (3, 3), (999999, 999999)] rfl rfl ⟨lr, lr, SV.le_lit rfl rfl, lr, lr, trivial⟩ ⟨rr, rr, rr, trivial⟩))
 rintro ⟨b, l, i⟩ ⟨⟨p1, p2, p3⟩, p4⟩
 have p1 : a ≤ b := p1
 have p2 : b ≤ a + 10 * i := p2
 have p3 : i ≤ 3 := p3
 have p4 : allK bM i l := p4
 have hc3 : tk3.length = 3 := rfl
 have hl1 : l.length ≤ i := p4.1
 have hkk : (i : Int) < 3 → (tk3.getD (i : Int).toNat []).length ≤ 8 := fun h => mem_len (getD_mem (by omega)) rfl
 rcases Nat.lt_or_ge i 3 with hi | hi
 · conv => whnf
   repeat' (first | (refine CallX.of (s84 n L hL _ ?_ ?_ 3 ?_) [(1000000, 1000000)] rfl ⟨lr, lr, trivial⟩ ⟨rr, trivial⟩ rfl rfl ?_; rotate_right; rintro x rout ⟨⟨w, rfl⟩, ⟨c, c1, c2, rfl⟩⟩; refine ⟨rfl, ?_⟩; conv => whnf) | (refine CallX.of (s33 n L hL _ ?_ ?_ [0, 50, 75, 200, 1000] ?_ ?_) [(1000000, 1000000)] rfl ⟨lr, SV.le_lit rfl rfl, trivial⟩ ⟨rr, trivial⟩ rfl rfl ?_; rotate_right; rintro x rout ⟨⟨u1, hu1, rfl⟩, ⟨c, c1, c2, rfl⟩⟩; refine ⟨rfl, ?_⟩; conv => whnf) | (refine CallX.of (s84 n L hL _ ?_ ?_ 2 ?_) [(1000000, 1000000)] rfl ⟨lr, lr, trivial⟩ ⟨rr, trivial⟩ rfl rfl ?_; rotate_right; rintro x rout ⟨⟨w2, rfl⟩, ⟨c, c1, c2, rfl⟩⟩; refine ⟨rfl, ?_⟩; conv => whnf) | (refine br_intro ?_ ?_ <;> intro hb <;> (try simp only [brs] at hb) <;> conv => whnf) | (refine RegX.rule (id := 18) hT rfl [] oUTmC66_18 (by decide +kernel) ?_; conv => whnf) | omega | (refine And.intro ?_ ?_; ((try dsimp only); first | omega | (refine szA rfl ?_; omega) | (refine szB rfl ?_; omega) | (unfold inI64; omega) | exact rfl | (simp only [List.toList_toArray, List.length_cons, List.length_nil]; omega) | (simp only [lns] at *; omega) | decide | (unfold inI64; decide)); conv => whnf) | decide | assumption)
   all_goals try (exact h0)
   all_goals try omega
   · exact ⟨(c, l, i + 1), ⟨⟨by omega, by show _ ≤ a + 10 * ((i + 1 : Nat) : Int); omega, by omega⟩, allK_le p4 (by omega)⟩, by show 3 - (i + 1) < 3 - i; omega, (by (refine Entails.mk' [(1000000, 1000000), (3, 3), (999999, 999999)] rfl rfl ?_ ?_ <;> repeat' (first | exact True.intro | exact lr | exact rr | exact SV.le_int (by omega) | exact SV.le_any _ | refine And.intro ?_ ?_)); done)⟩
   · have hk := hkk (by omega)
     obtain ⟨ky, hky⟩ : ∃ ky, ky = tk3.getD (i : Int).toNat [] := ⟨_, rfl⟩
     obtain ⟨cc, hcc⟩ : ∃ cc : Int, cc = c := ⟨_, rfl⟩
     rw [← hky] at hk
     refine LoopX.rule hT (C := []) (ι := Int × List Int × Nat) (fun (d, on, k) => (cc ≤ d ∧ d ≤ cc + k ∧ k ≤ 5) ∧ on.length ≤ k)
      (fun (d, on, k) => mkSt [(0, .ptr 1000000 0), (3, .buf 3), (6, .ptr 6 0), (10, .d (strs tk3)), (11, .d (.int .i64 3)), (12, .d (.int .i64 i)), (25, .d (ints [1, 2, 3, 4, 6])), (26, .d (.int .i64 5)), (27, .d (.int .i64 k))] [(1000000, strm n L d), (3, seqB 141 4 btF bt0 l), (999999, .bunch 3 1 (bL l)), (6, .cells 141 [.d (.str ky), .d (.int .i64 u1), .buf 7, .d (.bool w2)]), (7, seqB 3 1 iF 0 on)])
      (fun (_, _, k) => 5 - k) (cc, [], 0) ⟨⟨by simp, by simp, by simp⟩, by simp⟩ ?_ ?_
     · subst hcc hky
       refine (Entails.nilCell 6 7 3 1 2 (rowF iF 0 []) rfl rfl rfl (by decide) rfl).trans (Entails.mk' [(1000000, 1000000), (3, 3), (999999, 999999), (6, 6), (7, 7)] rfl rfl ⟨lr, lr, lr, lr, lr, lr, SV.le_lit rfl rfl, lr, lr, trivial⟩ ⟨rr, rr, rr, ?_, rr, trivial⟩)
       conv => whnf
       refine ⟨rfl, fun _ _ _ _ h => ?_⟩
       exact h
     rintro ⟨d, on, k⟩ ⟨⟨q1, q2, q3⟩, q4⟩
     have q1 : cc ≤ d := q1
     have q2 : d ≤ cc + k := q2
     have q3 : k ≤ 5 := q3
     have q4 : on.length ≤ k := q4
     conv => whnf
     repeat' (first | (refine CallX.of (s84 n L hL _ ?_ ?_ 2 ?_) [(1000000, 1000000)] rfl ⟨lr, lr, trivial⟩ ⟨rr, trivial⟩ rfl rfl ?_; rotate_right; rintro x rout ⟨⟨w3, rfl⟩, ⟨c, c1, c2, rfl⟩⟩; refine ⟨rfl, ?_⟩; conv => whnf) | (intro v; conv => whnf) | (refine br_intro ?_ ?_ <;> intro hb <;> (try simp only [brs] at hb) <;> conv => whnf) | (refine RegX.rule (id := 18) hT rfl [] oUTmC66_18 (by decide +kernel) ?_; conv => whnf) | omega | (refine And.intro ?_ ?_; ((try dsimp only); first | omega | (refine szA rfl ?_; omega) | (refine szB rfl ?_; omega) | (unfold inI64; omega) | exact rfl | (simp only [List.toList_toArray, List.length_cons, List.length_nil]; omega) | (simp only [lns] at *; omega) | decide | (unfold inI64; decide)); conv => whnf) | decide | assumption)
     all_goals try (exact h0)
     all_goals try omega
     · exact ⟨(c, on ++ [([1, 2, 3, 4, 6] : List Int).getD (k : Int).toNat 0], k + 1), ⟨⟨by omega, by show _ ≤ cc + ((k + 1 : Nat) : Int); omega, by omega⟩, by show (on ++ _).length ≤ k + 1; rw [List.length_append]; simp; omega⟩, by show 5 - (k + 1) < 5 - k; omega,
        Entails.mk' [(1000000, 1000000), (3, 3), (999999, 999999), (6, 6), (7, 37)] rfl rfl ⟨lr, lr, lr, lr, lr, lr, lr, lr, lr, trivial⟩ ⟨rr, rr, rr, rr, Res.le_snocF rfl, trivial⟩⟩
     · exact ⟨(c, on, k + 1), ⟨⟨by omega, by show _ ≤ cc + ((k + 1 : Nat) : Int); omega, by omega⟩, by show on.length ≤ k + 1; omega⟩, by show 5 - (k + 1) < 5 - k; omega, (by (refine Entails.mk' [(1000000, 1000000), (3, 3), (999999, 999999), (6, 6), (7, 7)] rfl rfl ?_ ?_ <;> repeat' (first | exact True.intro | exact lr | exact rr | exact SV.le_int (by omega) | exact SV.le_any _ | refine And.intro ?_ ?_)); done)⟩
     · exact ⟨(d, l ++ [⟨ky, u1, v, on, w2⟩], i + 1), ⟨⟨by omega, by show _ ≤ a + 10 * ((i + 1 : Nat) : Int); omega, by omega⟩, allK_snoc p4 (by omega) ⟨hk, by show on.length ≤ 5; omega⟩⟩, by show 3 - (i + 1) < 3 - i; omega,
        Entails.mk' [(1000000, 1000000), (3, 43), (999999, 999999)] rfl rfl ⟨lr, lr, lr, lr, lr, trivial⟩ ⟨rr, Res.le_snocF rfl, (by rw [bL_snoc]; exact rr), trivial⟩⟩
 · have hi3 : i = 3 := by omega
   subst hi3
   have hsp := fun (j : Int) (h1 : 0 ≤ j) (h2 : j < l.length) => bL_split l (j := j.toNat) (by omega)
   have hon : ∀ j : Int, 0 ≤ j → j < l.length → (l.getD j.toNat bt0).on.length ≤ 5 := fun j h1 h2 => (p4.2 _ (getD_mem (by omega))).2
   have hB : ∀ t ∈ l, ∃ p ∈ bL l, p.1 = t.v ∧ p.2.1 = t.on.length ∧ ∀ i, i < p.2.1 → p.2.2 i = rowF iF 0 t.on i := fun t ht => ⟨_, bL_mem ht, rfl, rfl, fun _ _ => rfl⟩
   conv => whnf
   repeat' (first | (refine CallX.of (s84 n L hL _ ?_ ?_ 15 ?_) [(1000000, 1000000)] rfl ⟨lr, lr, trivial⟩ ⟨rr, trivial⟩ rfl rfl ?_; rotate_right; rintro x rout ⟨⟨w, rfl⟩, ⟨c, c1, c2, rfl⟩⟩; refine ⟨rfl, ?_⟩; conv => whnf) | (refine CallX.of (s86 n L hL _ ?_ ?_ 3 ?_) [(1000000, 1000000)] rfl ⟨lr, lr, trivial⟩ ⟨rr, trivial⟩ rfl rfl ?_; rotate_right; rintro x rout ⟨⟨m, hm1, hm2, hm3, rfl⟩, ⟨c, c1, c2, rfl⟩⟩; refine ⟨rfl, ?_⟩; conv => whnf) | (refine CallX.of (s86 n L hL _ ?_ ?_ _ ?_) [(1000000, 1000000)] rfl ⟨lr, lr, trivial⟩ ⟨rr, trivial⟩ rfl rfl ?_; rotate_right; rintro x rout ⟨⟨j, hj1, hj2, hj3, rfl⟩, ⟨c, c1, c2, rfl⟩⟩; refine ⟨rfl, ?_⟩; conv => whnf) | (refine CallX.of (s15 n L hL _ ?_ ?_ [[], [99, 105, 116, 121], [65]] (by simp) (by simp)) [(1000000, 1000000)] rfl ⟨lr, SV.le_lit rfl rfl, trivial⟩ ⟨rr, trivial⟩ rfl rfl ?_; rotate_right; rintro x rout ⟨⟨v1, hv1, rfl⟩, ⟨c, c1, c2, rfl⟩⟩; refine ⟨rfl, ?_⟩; conv => whnf) | (refine CallX.of (s104 n L hL _ ?_ ?_ 0 1000 ?_ ?_ ?_) [(1000000, 1000000)] rfl ⟨lr, lr, lr, trivial⟩ ⟨rr, trivial⟩ rfl rfl ?_; rotate_right; rintro x rout ⟨⟨o1, ho1, ho2, rfl⟩, ⟨c, c1, c2, rfl⟩⟩; refine ⟨rfl, ?_⟩; conv => whnf) | (refine CallX.of (s33 n L hL _ ?_ ?_ [0, 5, 6, 7, 1] ?_ ?_) [(1000000, 1000000)] rfl ⟨lr, SV.le_lit rfl rfl, trivial⟩ ⟨rr, trivial⟩ rfl rfl ?_; rotate_right; rintro x rout ⟨⟨u1, hu1, rfl⟩, ⟨c, c1, c2, rfl⟩⟩; refine ⟨rfl, ?_⟩; conv => whnf) | (obtain ⟨A, B, hAB, hset⟩ := hsp j hj1 (hj2 (by omega)); refine ⟨A, _, _, B, hAB, ?_⟩; conv => whnf) | (refine And.intro (by have := hon j hj1 (hj2 (by omega)); show ((l.getD j.toNat bt0).on.length + 1) * 8 ≤ 140737488355328; omega) ?_; conv => whnf) | (intro v'; conv => whnf) | (refine br_intro ?_ ?_ <;> intro hb <;> (try simp only [brs] at hb) <;> conv => whnf) | (refine RegX.rule (id := 18) hT rfl [] oUTmC66_18 (by decide +kernel) ?_; conv => whnf) | omega | (refine And.intro ?_ ?_; ((try dsimp only); first | omega | (refine szA rfl ?_; omega) | (refine szB rfl ?_; omega) | (unfold inI64; omega) | exact rfl | (simp only [List.toList_toArray, List.length_cons, List.length_nil]; omega) | (simp only [lns] at *; omega) | decide | (unfold inI64; decide)); conv => whnf) | decide | assumption)
   all_goals try (exact h0)
   all_goals try omega
   · have hw : v1.length ≤ 8 := mem_len hv1 rfl
     refine .ent _ _ (tax_fro (q := 3) rfl rfl (updL l j.toNat bt0 fun y => { y with key := v1 }) (by simp) (fun i hi => rows_updG (f := btF) (d := bt0) (l := l) (j := j.toNat) (off := 0) (ds := [.str v1]) (fun _ _ => rfl) (fun y : BTx => { y with key := v1 }) (fun _ => rfl) i (by simpa using hi)) (fun t ht => ?_)) (.freeze _ 3 141 4 _ _ rfl (.weak _ ?_))
     · rcases List.mem_or_eq_of_mem_set ht with q | rfl
       · exact hB t q
       · exact hB (l.getD j.toNat bt0) (getD_mem (by omega))
     conv => whnf
     exact ⟨.d (taxs ((updL l j.toNat bt0 fun y => { y with key := v1 }).map bT)), [(1000000, strm n L _)], SV.le_ro (by simp) (fun _ _ => rfl), ⟨⟨_, taxM_map (by simpa using p4.1) (fun t ht => by
      rcases List.mem_or_eq_of_mem_set ht with q | rfl
      · exact ⟨(p4.2 t q).1, Nat.le_trans (p4.2 t q).2 (by decide)⟩
      · exact ⟨hw, Nat.le_trans (p4.2 _ (getD_mem (by omega))).2 (by decide)⟩), rfl⟩, _, by omega, by omega, rfl⟩, rr, trivial⟩
   · refine .ent _ _ (tax_fro (q := 3) rfl rfl (updL l j.toNat bt0 fun y => { y with per := o1 }) (by simp) (fun i hi => rows_updG (f := btF) (d := bt0) (l := l) (j := j.toNat) (off := 1) (ds := [.int .i64 o1]) (fun _ _ => rfl) (fun y : BTx => { y with per := o1 }) (fun _ => rfl) i (by simpa using hi)) (fun t ht => ?_)) (.freeze _ 3 141 4 _ _ rfl (.weak _ ?_))
     · rcases List.mem_or_eq_of_mem_set ht with q | rfl
       · exact hB t q
       · exact hB (l.getD j.toNat bt0) (getD_mem (by omega))
     conv => whnf
     exact ⟨.d (taxs ((updL l j.toNat bt0 fun y => { y with per := o1 }).map bT)), [(1000000, strm n L _)], SV.le_ro (by simp) (fun _ _ => rfl), ⟨⟨_, taxM_map (by simpa using p4.1) (fun t ht => by
      rcases List.mem_or_eq_of_mem_set ht with q | rfl
      · exact ⟨(p4.2 t q).1, Nat.le_trans (p4.2 t q).2 (by decide)⟩
      · exact ⟨(p4.2 _ (getD_mem (by omega))).1, Nat.le_trans (p4.2 _ (getD_mem (by omega))).2 (by decide)⟩), rfl⟩, _, by omega, by omega, rfl⟩, rr, trivial⟩
   · have hon := hon j hj1 (hj2 (by omega))
     refine .ent _ _ (tax_fro (q := 3) rfl rfl (updL l j.toNat bt0 fun y => { y with v := v', on := y.on ++ [u1] }) (by simp) (fun i hi => rows_updG (f := btF) (d := bt0) (l := l) (j := j.toNat) (off := 2) (ds := [.opq v']) (fun _ _ => rfl) (fun y : BTx => { y with v := v', on := y.on ++ [u1] }) (fun _ => rfl) i (by simpa using hi)) (fun t ht => ?_)) (.freeze _ 3 141 4 _ _ rfl (.weak _ ?_))
     · rcases hset _ t ht with rfl | q
       · exact ⟨_, List.mem_cons_self, rfl, by simp, fun i hi => rows_snocF (f := iF) (d := 0) (l := (l.getD j.toNat bt0).on) (x := u1) (h := fun i => [[DV.int .i64 u1]].getD i []) rfl i hi⟩
       · exact ⟨_, List.mem_cons_of_mem _ q, rfl, rfl, fun _ _ => rfl⟩
     conv => whnf
     exact ⟨.d (taxs ((updL l j.toNat bt0 fun y => { y with v := v', on := y.on ++ [u1] }).map bT)), [(1000000, strm n L _)], SV.le_ro (by simp) (fun _ _ => rfl), ⟨⟨_, taxM_map (by simpa using p4.1) (fun t ht => by
      rcases List.mem_or_eq_of_mem_set ht with q | rfl
      · exact ⟨(p4.2 t q).1, Nat.le_trans (p4.2 t q).2 (by decide)⟩
      · exact ⟨(p4.2 _ (getD_mem (by omega))).1, by show (_ ++ [u1]).length ≤ 8; rw [List.length_append, List.length_singleton]; omega⟩), rfl⟩, _, by omega, by omega, rfl⟩, rr, trivial⟩
   all_goals
    refine .ent _ _ (tax_fro (q := 3) rfl rfl l rfl (fun _ _ => rfl) hB) (.freeze _ 3 141 4 _ _ rfl (.weak _ ?_))
    conv => whnf
    exact ⟨.d (taxs (l.map bT)), [(1000000, strm n L _)], SV.le_ro (by simp) (fun _ _ => rfl), ⟨⟨_, taxM_map p4.1 (fun t q => ⟨(p4.2 t q).1, Nat.le_trans (p4.2 t q).2 (by decide)⟩), rfl⟩, _, by omega, by omega, rfl⟩, rr, trivial⟩
end Go.Proofs.YtobgeiclibhiiaaGreatDoor
