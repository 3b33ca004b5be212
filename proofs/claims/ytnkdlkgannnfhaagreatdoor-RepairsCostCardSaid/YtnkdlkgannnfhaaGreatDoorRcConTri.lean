/- RepairsCost is proved: for every input the law returns true, and its argument reads afterwards as it read before. Conditions: those of the given row alone. -/
import Derived.Test.YtnkdlkgannnfhaaGreatDoorRcConTwo
import Derived.Test.YtnkdlkgannnfhaaGreatDoorRcEngTwo
import Derived.Test.YtnkdlkgannnfhaaGreatDoorRcConOne
set_option linter.unusedVariables false
set_option linter.unusedSimpArgs false
set_option maxRecDepth 20000
namespace Go.Proofs.YtnkdlkgannnfhaaGreatDoor
open Go Go.Eng
abbrev rcell (st : MSt) : Res := .cells 212 [.d (prgs st.1), .d (.int .i64 st.2)]
def stepM (r : Rul) (a b : List Mrk) (d i : Nat) (now st : MSt) (k : Nat) : MSt := if okM r a b i now.1 k then mtch r a b d (i + 1) (now.1 ++ [⟨i, k⟩], now.2 + distM (a.getD i mk0) (b.getD k mk0)) st else st
theorem mtch_succ (r : Rul) (a b : List Mrk) (d i : Nat) (now st : MSt) : mtch r a b (d + 1) i now st = mtch r a b d (i + 1) now ((List.range b.length).foldl (stepM r a b d i now) st) := rfl
theorem mtch_succL {r : Rul} {a b : List Mrk} {m : Mrk} (d i : Nat) (now st : MSt) (hm : sameM (a.getD i mk0) m = true) : mtch r a b (d + 1) i now st = mtch r a b d (i + 1) now ((likeM b m).foldl (stepM r a b d i now) st) := by
  rw [mtch_succ]
  exact congrArg _ (mtch_like d i now st hm).symm
theorem likeM_lt {b : List Mrk} {m : Mrk} {j : Nat} (h : j < (likeM b m).length) : (likeM b m).getD j 0 < b.length := by
  have : (likeM b m).getD j 0 ∈ likeM b m := getD_mem h
  unfold likeM at this
  exact List.mem_range.1 (List.mem_filter.1 this).1
def nowOk (i : Nat) (m : MSt) : Prop := m.1.length ≤ i ∧ 0 ≤ m.2 ∧ m.2 ≤ 50000000 * m.1.length
theorem nowOk_snoc {i k : Nat} {m : MSt} {x : Int} (h : nowOk i m) (h1 : 0 ≤ x) (h2 : x ≤ 50000000) : nowOk (i + 1) (m.1 ++ [⟨i, k⟩], m.2 + x) := by
  unfold nowOk at *
  simp only [List.length_append, List.length_singleton]
  omega
theorem nowOk_up {i : Nat} {m : MSt} (h : nowOk i m) : nowOk (i + 1) m := by unfold nowOk at *; omega
theorem foldM_len {r : Rul} {a b : List Mrk} {d i : Nat} {now st : MSt} {n : Nat} (h1 : now.1.length + d + 1 ≤ n) (h2 : st.1.length ≤ n) (l : List Nat) : (l.foldl (stepM r a b d i now) st).1.length ≤ n := by
  refine foldl_inv (q := fun s : MSt => s.1.length ≤ n) (fun s k _ hs => ?_) h2
  unfold stepM
  split
  · exact mtch_len _ _ _ _ n (by simp; omega) hs
  · exact hs
-- group
set_option maxHeartbeats 2000000 in
theorem z143 (r : Rul) (a b : List Mrk) (m0 : Mrk) (hr : rBd r) (ha : a.length ≤ 60 ∧ ∀ i, i < a.length → mBd (a.getD i mk0)) (hb2 : b.length ≤ 60 ∧ ∀ i, i < b.length → mBd (b.getD i mk0)) :
    ∀ (d i : Nat) (now st : MSt), i + d ≤ a.length → (∀ j, i ≤ j → j < i + d → sameM (a.getD j mk0) m0 = true) → nowOk i now → st.1.length ≤ 60 →
    FSpec Tryz.prog 143 [.agg ((ruF r).map .d), .d (mrks a), .d (mrks b), .d (ints (rangeI i d)), .d (ints (toI (likeM b m0))), .agg [.d (prgs now.1), .d (.int .i64 now.2)], .ptr 1000006 0] [(1000006, rcell st)]
      (fun y r' => y = .tup [] ∧ r' = [(1000006, rcell (mtch r a b d i now st))]) := by
  intro d
  induction d with
  | zero =>
    intro i now st hd hs hn hst
    have hn1 := hn.1
    have h := z230 now st (by omega) (by omega)
    have hl := rangeI_len i 0
    refine spec_of hT (C := []) Tryz.func143 rfl Tryz.call143 rfl rfl rfl ?_
    conv => whnf
    repeat' (first
      | (refine CallX.exact (h) rfl rfl ?_; rotate_right; conv => whnf)
      | (refine CallX.exact (z231f now.1 (by omega)) rfl rfl ?_; rotate_right; conv => whnf)
      | (refine br_intro (fun hb => ?_) (fun hb => ?_) <;> (try simp only [decide_eq_true_eq, decide_eq_false_iff_not, Bool.not_eq_true', Bool.not_eq_false', Bool.and_eq_true, Bool.or_eq_true, beq_iff_eq, not_and, Int.not_le, Int.not_lt, Int.toNat_natCast, beq_eq_false_iff_ne, ne_eq, eq_self, not_true_eq_false, not_false_eq_true] at hb) <;> (conv => whnf))
      | (refine RegX.rule (id := 2) hT rfl [] [(0, []), (1, [0]), (2, [0]), (3, [0]), (4, [])] (by decide +kernel) ?_; conv => whnf)
      | (refine RegX.rule (id := 3) hT rfl [] [(0, []), (1, [0]), (2, [0]), (4, [0, 1, 2]), (5, [0, 1, 2]), (3, [0, 4, 5]), (6, [0]), (7, []), (8, [])] (by decide +kernel) ?_; conv => whnf)
      | (refine RegX.rule (id := 8) hT rfl [] [(0, []), (1, [0]), (2, [0, 1]), (3, [0]), (4, [0]), (5, [0, 1, 2, 3, 4]), (6, [0, 1, 2, 3, 4, 5]), (7, [0, 1, 2, 3, 4]), (8, [0, 1, 2, 3, 4]), (9, []), (10, []), (11, []), (12, []), (13, [11, 12]), (14, []), (15, []), (16, [])] (by decide +kernel) ?_; conv => whnf)
      | (refine RegX.rule (id := 9) hT rfl [] [(0, []), (1, [0]), (2, [0, 1]), (3, [0, 1, 2]), (4, [0, 1, 2]), (5, [0, 1, 2, 3, 4]), (6, [0, 1, 2, 3, 4, 5]), (7, [0, 1, 2, 3, 4, 5]), (9, [0, 1, 2, 3, 4, 5, 6, 7]), (10, [0, 1, 2, 3, 4, 5, 6, 7, 9]), (11, [0, 1, 2, 3, 4, 5, 6, 7]), (12, [0, 1, 2, 3, 4, 5, 6, 7]), (14, [0, 1, 2, 3, 4, 5, 6, 7, 9, 10, 11, 12]), (15, [0, 1, 2, 3, 4, 5, 6, 7, 9, 10, 11, 12]), (16, [0, 1, 2, 3, 4, 5, 6, 7, 9, 10, 11, 12, 14, 15]), (17, [0, 1, 2, 3, 4, 5, 6, 7, 9, 10, 11, 12, 14, 15, 16]), (18, [0, 1, 2, 3, 4, 5, 6, 7, 9, 10, 11, 12, 14, 15]), (19, [0, 1, 2, 3, 4, 5, 6, 7, 9, 10, 11, 12, 14, 15]), (20, [0, 1, 2, 3, 4, 5, 6, 7, 9, 10, 11, 12, 14, 15, 16, 17, 18, 19]), (21, [0, 1, 2, 3, 4, 5, 6, 7, 9, 10, 11, 12, 14, 15, 16, 17, 18, 19, 20]), (22, [0, 1, 2, 3, 4, 5, 6, 7, 9, 10, 11, 12, 14, 15, 16, 17, 18, 19]), (23, [0, 1, 2, 3, 4, 5, 6, 7, 9, 10, 11, 12, 14, 15, 16, 17, 18, 19]), (27, [0, 1, 2, 3, 4, 5, 6, 7, 9, 10, 11, 12, 14, 15, 16, 17, 18, 19, 20, 21, 22, 23]), (8, [0, 1, 2, 3, 4, 5, 9, 10, 11, 12, 14, 15, 16, 17, 18, 19, 20, 21, 22, 23, 27]), (13, [0, 1, 2, 3, 4, 5, 14, 15, 16, 17, 18, 19, 20, 21, 22, 23, 27]), (24, [0, 1, 2, 3, 4, 5, 14, 15, 27]), (25, [0, 1, 2, 3, 4, 5, 27]), (26, [0, 1, 2, 3, 4, 5, 27]), (28, [])] (by decide +kernel) ?_; conv => whnf)
      | (refine RegX.rule (id := 11) hT rfl [] [(0, []), (1, [0]), (2, [0, 1]), (3, [0, 1, 2]), (4, [0, 1, 2]), (5, [0, 1, 2, 3, 4]), (6, [0, 1, 2, 3, 4, 5]), (7, [0, 1, 2, 3, 4, 5, 6]), (8, [])] (by decide +kernel) ?_; conv => whnf)
      | omega
      | (refine And.intro ?_ ?_; ((try dsimp only); first | omega | (refine ⟨by omega, by omega, Int.le_trans (Int.mul_le_mul_of_nonneg_right (Int.ofNat_le.2 (Nat.le_of_ble_eq_true (rfl : Nat.ble _ 1024 = true))) (by omega)) (by omega), by omega⟩) | (refine Nat.le_trans (Nat.mul_le_mul_left _ (Nat.le_of_ble_eq_true (rfl : Nat.ble _ 1024 = true))) ?_; omega) | (unfold inI64; omega) | (constructor <;> omega) | (simp only [inI64, List.length_cons, List.length_append, List.length_nil, List.length_set] at *; omega) | decide | (unfold inI64; decide)); conv => whnf)
      | omega | decide | assumption)
    all_goals try (exact absurd hl (by omega))
    all_goals
      refine .ret _ ?_
      conv => whnf
      refine ⟨_, ⟨rfl, rfl⟩, ?_, trivial⟩
      rw [mtch]
      simp only [*]
      exact Res.le_refl _
  | succ d ih =>
    intro i now st hd hs hn hst
    have hn1 := hn.1
    have hai := ha.2 i (by omega)
    have hl := rangeI_len i (d + 1)
    have hlk : (likeM b m0).length ≤ b.length := by
      unfold likeM; exact Nat.le_trans (List.length_filter_le _ _) (by simp)
    have hti := toI_len (likeM b m0)
    rw [mtch_succL d i now st (hs i (Nat.le_refl _) (by omega))]
    refine spec_of hT (C := []) Tryz.func143 rfl Tryz.call143 rfl rfl rfl ?_
    conv => whnf
    repeat' (first
      | (refine br_intro (fun hb => ?_) (fun hb => ?_) <;> (try simp only [decide_eq_true_eq, decide_eq_false_iff_not, Bool.not_eq_true', Bool.not_eq_false', Bool.and_eq_true, Bool.or_eq_true, beq_iff_eq, not_and, Int.not_le, Int.not_lt, Int.toNat_natCast, beq_eq_false_iff_ne, ne_eq, eq_self, not_true_eq_false, not_false_eq_true] at hb) <;> (conv => whnf))
      | (refine RegX.rule (id := 2) hT rfl [] [(0, []), (1, [0]), (2, [0]), (3, [0]), (4, [])] (by decide +kernel) ?_; conv => whnf)
      | (refine RegX.rule (id := 3) hT rfl [] [(0, []), (1, [0]), (2, [0]), (4, [0, 1, 2]), (5, [0, 1, 2]), (3, [0, 4, 5]), (6, [0]), (7, []), (8, [])] (by decide +kernel) ?_; conv => whnf)
      | (refine RegX.rule (id := 8) hT rfl [] [(0, []), (1, [0]), (2, [0, 1]), (3, [0]), (4, [0]), (5, [0, 1, 2, 3, 4]), (6, [0, 1, 2, 3, 4, 5]), (7, [0, 1, 2, 3, 4]), (8, [0, 1, 2, 3, 4]), (9, []), (10, []), (11, []), (12, []), (13, [11, 12]), (14, []), (15, []), (16, [])] (by decide +kernel) ?_; conv => whnf)
      | (refine RegX.rule (id := 9) hT rfl [] [(0, []), (1, [0]), (2, [0, 1]), (3, [0, 1, 2]), (4, [0, 1, 2]), (5, [0, 1, 2, 3, 4]), (6, [0, 1, 2, 3, 4, 5]), (7, [0, 1, 2, 3, 4, 5]), (9, [0, 1, 2, 3, 4, 5, 6, 7]), (10, [0, 1, 2, 3, 4, 5, 6, 7, 9]), (11, [0, 1, 2, 3, 4, 5, 6, 7]), (12, [0, 1, 2, 3, 4, 5, 6, 7]), (14, [0, 1, 2, 3, 4, 5, 6, 7, 9, 10, 11, 12]), (15, [0, 1, 2, 3, 4, 5, 6, 7, 9, 10, 11, 12]), (16, [0, 1, 2, 3, 4, 5, 6, 7, 9, 10, 11, 12, 14, 15]), (17, [0, 1, 2, 3, 4, 5, 6, 7, 9, 10, 11, 12, 14, 15, 16]), (18, [0, 1, 2, 3, 4, 5, 6, 7, 9, 10, 11, 12, 14, 15]), (19, [0, 1, 2, 3, 4, 5, 6, 7, 9, 10, 11, 12, 14, 15]), (20, [0, 1, 2, 3, 4, 5, 6, 7, 9, 10, 11, 12, 14, 15, 16, 17, 18, 19]), (21, [0, 1, 2, 3, 4, 5, 6, 7, 9, 10, 11, 12, 14, 15, 16, 17, 18, 19, 20]), (22, [0, 1, 2, 3, 4, 5, 6, 7, 9, 10, 11, 12, 14, 15, 16, 17, 18, 19]), (23, [0, 1, 2, 3, 4, 5, 6, 7, 9, 10, 11, 12, 14, 15, 16, 17, 18, 19]), (27, [0, 1, 2, 3, 4, 5, 6, 7, 9, 10, 11, 12, 14, 15, 16, 17, 18, 19, 20, 21, 22, 23]), (8, [0, 1, 2, 3, 4, 5, 9, 10, 11, 12, 14, 15, 16, 17, 18, 19, 20, 21, 22, 23, 27]), (13, [0, 1, 2, 3, 4, 5, 14, 15, 16, 17, 18, 19, 20, 21, 22, 23, 27]), (24, [0, 1, 2, 3, 4, 5, 14, 15, 27]), (25, [0, 1, 2, 3, 4, 5, 27]), (26, [0, 1, 2, 3, 4, 5, 27]), (28, [])] (by decide +kernel) ?_; conv => whnf)
      | (refine RegX.rule (id := 11) hT rfl [] [(0, []), (1, [0]), (2, [0, 1]), (3, [0, 1, 2]), (4, [0, 1, 2]), (5, [0, 1, 2, 3, 4]), (6, [0, 1, 2, 3, 4, 5]), (7, [0, 1, 2, 3, 4, 5, 6]), (8, [])] (by decide +kernel) ?_; conv => whnf)
      | omega
      | (refine And.intro ?_ ?_; ((try dsimp only); first | omega | (refine ⟨by omega, by omega, Int.le_trans (Int.mul_le_mul_of_nonneg_right (Int.ofNat_le.2 (Nat.le_of_ble_eq_true (rfl : Nat.ble _ 1024 = true))) (by omega)) (by omega), by omega⟩) | (refine Nat.le_trans (Nat.mul_le_mul_left _ (Nat.le_of_ble_eq_true (rfl : Nat.ble _ 1024 = true))) ?_; omega) | (unfold inI64; omega) | (constructor <;> omega) | (simp only [inI64, List.length_cons, List.length_append, List.length_nil, List.length_set] at *; omega) | decide | (unfold inI64; decide)); conv => whnf)
      | omega | decide | assumption)
    refine LoopX.rule hT (C := []) (ι := Nat) (fun j => j ≤ (likeM b m0).length) (fun j => mkSt [(1, .d (mrks a)), (2, .d (mrks b)), (3, .d (ints (rangeI i (d + 1)))), (4, .d (ints (toI (likeM b m0)))), (6, .ptr 1000006 0), (7, .ptr 7 0), (12, .ptr 12 0), (14, .d (.int .i64 i)), (36, .d (ints (toI (likeM b m0)))), (37, .d (.int .i64 (toI (likeM b m0)).length)), (38, .d (.int .i64 j))]
      [(7, .cells 76 ((ruF r).map .d)), (12, rcell now), (1000006, rcell (((likeM b m0).take j).foldl (stepM r a b d i now) st))]) (fun j => (likeM b m0).length - j) 0 (by omega) (by refine Entails.mk' [(7, 7), (12, 12), (1000006, 1000006)] rfl rfl ?_ ?_ <;> repeat' (first | exact True.intro | exact SV.le_refl _ | exact Res.le_refl _ | exact SV.le_int (by omega) | exact SV.le_any _ | refine And.intro ?_ ?_)) ?_
    rintro j p1
    have e1 : (j : Int).toNat = j := Int.toNat_natCast j
    have e2 : (i : Int).toNat = i := Int.toNat_natCast i
    have hfl := foldM_len (r := r) (a := a) (b := b) (i := i) (now := now) (st := st) (n := 60) (d := d) (by omega) hst ((likeM b m0).take j)
    obtain ⟨q, hq⟩ : ∃ q, q = ((likeM b m0).take j).foldl (stepM r a b d i now) st := ⟨_, rfl⟩
    rw [← hq] at hfl ⊢
    by_cases hj : j < (likeM b m0).length
    · have hkb : (likeM b m0).getD j 0 < b.length := likeM_lt hj
      have hK : ((toI (likeM b m0)).getD j 0) = (((likeM b m0).getD j 0 : Nat) : Int) := toI_get hj
      have hKi : ((toI (likeM b m0)).getD j 0) = ((((toI (likeM b m0)).getD j 0).toNat : Nat) : Int) := by omega
      have hkn : ((toI (likeM b m0)).getD j 0).toNat < b.length := by omega
      have hK' : (toI (likeM b m0)).getD (j : Int).toNat 0 = ((toI (likeM b m0)).getD j 0) := by rw [e1]
      have hstep : ((likeM b m0).take (j + 1)).foldl (stepM r a b d i now) st = if okM r a b i now.1 ((toI (likeM b m0)).getD j 0).toNat then mtch r a b d (i + 1) (now.1 ++ [⟨i, ((toI (likeM b m0)).getD j 0)⟩], now.2 + distM (a.getD i mk0) (b.getD ((toI (likeM b m0)).getD j 0).toNat mk0)) q else q := by
        rw [foldl_take _ 0 _ _ hj, ← hq, show (likeM b m0).getD j 0 = ((toI (likeM b m0)).getD j 0).toNat by omega]
        unfold stepM
        rw [← hKi]
      have hbk := hb2.2 ((toI (likeM b m0)).getD j 0).toNat hkn
      have h151 := z151 r (a.getD i mk0) (b.getD ((toI (likeM b m0)).getD j 0).toNat mk0) hr hai hbk
      have h152 := z152 (a.getD i mk0) (b.getD ((toI (likeM b m0)).getD j 0).toNat mk0) hai hbk
      have hdb := distM_bd (a := a.getD i mk0) (b := b.getD ((toI (likeM b m0)).getD j 0).toNat mk0) (by unfold mBd at hai; omega) (by unfold mBd at hbk; omega)
      have h146 := z146i ((toI (likeM b m0)).getD j 0) 232 now.1 (by omega) (fun p => p.b == ((toI (likeM b m0)).getD j 0)) (fun x _ => z232 x _)
      obtain ⟨m, hm⟩ : ∃ m : MSt, m = (now.1 ++ [⟨i, ((toI (likeM b m0)).getD j 0)⟩], now.2 + distM (a.getD i mk0) (b.getD ((toI (likeM b m0)).getD j 0).toNat mk0)) := ⟨_, rfl⟩
      have hm1 : nowOk (i + 1) m := by rw [hm, hKi]; exact nowOk_snoc hn hdb.1 hdb.2
      have hn2 := hn.2
      have h143 := ih (i + 1) m q (by omega) (fun j h1 h2 => hs j (by omega) (by omega)) hm1 hfl
      rw [← hm] at hstep
      have hu : usedM now.1 ((toI (likeM b m0)).getD j 0).toNat = now.1.any fun p => p.b == ((toI (likeM b m0)).getD j 0) := by unfold usedM; rw [← hKi]
      have hok : canB r (a.getD i mk0) (b.getD ((toI (likeM b m0)).getD j 0).toNat mk0) = true → (now.1.any fun p => p.b == ((toI (likeM b m0)).getD j 0)) = false → okM r a b i now.1 ((toI (likeM b m0)).getD j 0).toNat = true := fun q1 q2 => by
        unfold okM; rw [hu, q1, q2]; rfl
      have hno : canB r (a.getD i mk0) (b.getD ((toI (likeM b m0)).getD j 0).toNat mk0) = false ∨ (now.1.any fun p => p.b == ((toI (likeM b m0)).getD j 0)) = true → ¬ okM r a b i now.1 ((toI (likeM b m0)).getD j 0).toNat = true := fun q => by
        unfold okM; rw [hu]; rcases q with q | q <;> rw [q] <;> simp
      conv => whnf
      repeat' (first
        | (refine CallX.exact (h151) rfl rfl ?_; rotate_right; conv => whnf)
        | (refine CallX.of h146 [(1000001, 16)] rfl ⟨SV.le_refl _, SV.le_refl _, trivial⟩ ⟨Res.le_refl _, trivial⟩ rfl rfl ?_; rintro x rout ⟨rfl, rfl⟩; refine ⟨rfl, ?_⟩; conv => whnf)
        | (refine CallX.exact (h152) rfl rfl ?_; rotate_right; conv => whnf)
        | (refine CallX.of (z231r now.1 (by omega)) [(7, 67)] rfl ⟨SV.le_refl _, trivial⟩ trivial rfl rfl ?_; rintro x rout (⟨rfl, hl0, rfl⟩ | ⟨rfl, rfl⟩) <;> (refine ⟨rfl, ?_⟩; conv => whnf); conv => whnf)
        | (refine CallX.freeze _ _ _ _ 72 85 2 _ _ rfl rfl ?_; refine CallX.of h143 [(1000006, 1000006)] rfl ⟨SV.le_refl _, SV.le_refl _, SV.le_refl _, (show SV.le _ (.d (ints ((rangeI i (d + 1)).drop 1))) from SV.le_drop (by rw [List.length_drop]; omega)), SV.le_refl _, SV.le_agg ⟨by rw [hm]; first | exact SV.le_snocF (l := now.1) (x := ⟨i, ((toI (likeM b m0)).getD j 0)⟩) rfl | (rw [hl0]; exact SV.le_lit rfl rfl), SV.le_int (by rw [hm]), trivial⟩, SV.le_refl _, trivial⟩ ⟨Res.le_refl _, trivial⟩ rfl rfl ?_; rintro x rout ⟨rfl, rfl⟩; refine ⟨rfl, ?_⟩; conv => whnf)
        | (refine br_intro (fun hb => ?_) (fun hb => ?_) <;> (try simp only [decide_eq_true_eq, decide_eq_false_iff_not, Bool.not_eq_true', Bool.not_eq_false', Bool.and_eq_true, Bool.or_eq_true, beq_iff_eq, not_and, Int.not_le, Int.not_lt, Int.toNat_natCast, beq_eq_false_iff_ne, ne_eq, eq_self, not_true_eq_false, not_false_eq_true] at hb) <;> (conv => whnf))
        | (refine RegX.rule (id := 2) hT rfl [] [(0, []), (1, [0]), (2, [0]), (3, [0]), (4, [])] (by decide +kernel) ?_; conv => whnf)
        | (refine RegX.rule (id := 3) hT rfl [] [(0, []), (1, [0]), (2, [0]), (4, [0, 1, 2]), (5, [0, 1, 2]), (3, [0, 4, 5]), (6, [0]), (7, []), (8, [])] (by decide +kernel) ?_; conv => whnf)
        | (refine RegX.rule (id := 8) hT rfl [] [(0, []), (1, [0]), (2, [0, 1]), (3, [0]), (4, [0]), (5, [0, 1, 2, 3, 4]), (6, [0, 1, 2, 3, 4, 5]), (7, [0, 1, 2, 3, 4]), (8, [0, 1, 2, 3, 4]), (9, []), (10, []), (11, []), (12, []), (13, [11, 12]), (14, []), (15, []), (16, [])] (by decide +kernel) ?_; conv => whnf)
        | (refine RegX.rule (id := 9) hT rfl [] [(0, []), (1, [0]), (2, [0, 1]), (3, [0, 1, 2]), (4, [0, 1, 2]), (5, [0, 1, 2, 3, 4]), (6, [0, 1, 2, 3, 4, 5]), (7, [0, 1, 2, 3, 4, 5]), (9, [0, 1, 2, 3, 4, 5, 6, 7]), (10, [0, 1, 2, 3, 4, 5, 6, 7, 9]), (11, [0, 1, 2, 3, 4, 5, 6, 7]), (12, [0, 1, 2, 3, 4, 5, 6, 7]), (14, [0, 1, 2, 3, 4, 5, 6, 7, 9, 10, 11, 12]), (15, [0, 1, 2, 3, 4, 5, 6, 7, 9, 10, 11, 12]), (16, [0, 1, 2, 3, 4, 5, 6, 7, 9, 10, 11, 12, 14, 15]), (17, [0, 1, 2, 3, 4, 5, 6, 7, 9, 10, 11, 12, 14, 15, 16]), (18, [0, 1, 2, 3, 4, 5, 6, 7, 9, 10, 11, 12, 14, 15]), (19, [0, 1, 2, 3, 4, 5, 6, 7, 9, 10, 11, 12, 14, 15]), (20, [0, 1, 2, 3, 4, 5, 6, 7, 9, 10, 11, 12, 14, 15, 16, 17, 18, 19]), (21, [0, 1, 2, 3, 4, 5, 6, 7, 9, 10, 11, 12, 14, 15, 16, 17, 18, 19, 20]), (22, [0, 1, 2, 3, 4, 5, 6, 7, 9, 10, 11, 12, 14, 15, 16, 17, 18, 19]), (23, [0, 1, 2, 3, 4, 5, 6, 7, 9, 10, 11, 12, 14, 15, 16, 17, 18, 19]), (27, [0, 1, 2, 3, 4, 5, 6, 7, 9, 10, 11, 12, 14, 15, 16, 17, 18, 19, 20, 21, 22, 23]), (8, [0, 1, 2, 3, 4, 5, 9, 10, 11, 12, 14, 15, 16, 17, 18, 19, 20, 21, 22, 23, 27]), (13, [0, 1, 2, 3, 4, 5, 14, 15, 16, 17, 18, 19, 20, 21, 22, 23, 27]), (24, [0, 1, 2, 3, 4, 5, 14, 15, 27]), (25, [0, 1, 2, 3, 4, 5, 27]), (26, [0, 1, 2, 3, 4, 5, 27]), (28, [])] (by decide +kernel) ?_; conv => whnf)
        | (refine RegX.rule (id := 11) hT rfl [] [(0, []), (1, [0]), (2, [0, 1]), (3, [0, 1, 2]), (4, [0, 1, 2]), (5, [0, 1, 2, 3, 4]), (6, [0, 1, 2, 3, 4, 5]), (7, [0, 1, 2, 3, 4, 5, 6]), (8, [])] (by decide +kernel) ?_; conv => whnf)
        | omega
        | (refine And.intro ?_ ?_; ((try dsimp only); first | omega | (refine ⟨by omega, by omega, Int.le_trans (Int.mul_le_mul_of_nonneg_right (Int.ofNat_le.2 (Nat.le_of_ble_eq_true (rfl : Nat.ble _ 1024 = true))) (by omega)) (by omega), by omega⟩) | (refine Nat.le_trans (Nat.mul_le_mul_left _ (Nat.le_of_ble_eq_true (rfl : Nat.ble _ 1024 = true))) ?_; omega) | (unfold inI64; omega) | (constructor <;> omega) | (simp only [inI64, List.length_cons, List.length_append, List.length_nil, List.length_set] at *; omega) | decide | (unfold inI64; decide)); conv => whnf)
        | omega | decide | assumption)
      all_goals
        refine ⟨j + 1, by omega, by omega, ?_⟩
        rw [hstep]
        first
          | (rw [if_pos (hok (by assumption) (by assumption))]; exact (by refine Entails.mk' [(7, 7), (12, 12), (1000006, 1000006)] rfl rfl ?_ ?_ <;> repeat' (first | exact True.intro | exact SV.le_refl _ | exact Res.le_refl _ | exact SV.le_int (by omega) | exact SV.le_any _ | refine And.intro ?_ ?_)))
          | (rw [if_neg (hno (.inl (by assumption)))]; exact (by refine Entails.mk' [(7, 7), (12, 12), (1000006, 1000006)] rfl rfl ?_ ?_ <;> repeat' (first | exact True.intro | exact SV.le_refl _ | exact Res.le_refl _ | exact SV.le_int (by omega) | exact SV.le_any _ | refine And.intro ?_ ?_)))
          | (rw [if_neg (hno (.inr (by assumption)))]; exact (by refine Entails.mk' [(7, 7), (12, 12), (1000006, 1000006)] rfl rfl ?_ ?_ <;> repeat' (first | exact True.intro | exact SV.le_refl _ | exact Res.le_refl _ | exact SV.le_int (by omega) | exact SV.le_any _ | refine And.intro ?_ ?_)))
    · obtain rfl : j = (likeM b m0).length := by omega
      rw [List.take_length] at hq
      have h143 := ih (i + 1) now q (by omega) (fun j h1 h2 => hs j (by omega) (by omega)) (nowOk_up hn) hfl
      conv => whnf
      repeat' (first
        | (refine CallX.of h143 [(1000006, 1000006)] rfl ⟨SV.le_refl _, SV.le_refl _, SV.le_refl _, (show SV.le _ (.d (ints ((rangeI i (d + 1)).drop 1))) from SV.le_drop (by rw [List.length_drop]; omega)), SV.le_refl _, SV.le_refl _, SV.le_refl _, trivial⟩ ⟨Res.le_refl _, trivial⟩ rfl rfl ?_; rintro x rout ⟨rfl, rfl⟩; refine ⟨rfl, ?_⟩; conv => whnf)
        | (refine br_intro (fun hb => ?_) (fun hb => ?_) <;> (try simp only [decide_eq_true_eq, decide_eq_false_iff_not, Bool.not_eq_true', Bool.not_eq_false', Bool.and_eq_true, Bool.or_eq_true, beq_iff_eq, not_and, Int.not_le, Int.not_lt, Int.toNat_natCast, beq_eq_false_iff_ne, ne_eq, eq_self, not_true_eq_false, not_false_eq_true] at hb) <;> (conv => whnf))
        | (refine RegX.rule (id := 2) hT rfl [] [(0, []), (1, [0]), (2, [0]), (3, [0]), (4, [])] (by decide +kernel) ?_; conv => whnf)
        | (refine RegX.rule (id := 3) hT rfl [] [(0, []), (1, [0]), (2, [0]), (4, [0, 1, 2]), (5, [0, 1, 2]), (3, [0, 4, 5]), (6, [0]), (7, []), (8, [])] (by decide +kernel) ?_; conv => whnf)
        | (refine RegX.rule (id := 8) hT rfl [] [(0, []), (1, [0]), (2, [0, 1]), (3, [0]), (4, [0]), (5, [0, 1, 2, 3, 4]), (6, [0, 1, 2, 3, 4, 5]), (7, [0, 1, 2, 3, 4]), (8, [0, 1, 2, 3, 4]), (9, []), (10, []), (11, []), (12, []), (13, [11, 12]), (14, []), (15, []), (16, [])] (by decide +kernel) ?_; conv => whnf)
        | (refine RegX.rule (id := 9) hT rfl [] [(0, []), (1, [0]), (2, [0, 1]), (3, [0, 1, 2]), (4, [0, 1, 2]), (5, [0, 1, 2, 3, 4]), (6, [0, 1, 2, 3, 4, 5]), (7, [0, 1, 2, 3, 4, 5]), (9, [0, 1, 2, 3, 4, 5, 6, 7]), (10, [0, 1, 2, 3, 4, 5, 6, 7, 9]), (11, [0, 1, 2, 3, 4, 5, 6, 7]), (12, [0, 1, 2, 3, 4, 5, 6, 7]), (14, [0, 1, 2, 3, 4, 5, 6, 7, 9, 10, 11, 12]), (15, [0, 1, 2, 3, 4, 5, 6, 7, 9, 10, 11, 12]), (16, [0, 1, 2, 3, 4, 5, 6, 7, 9, 10, 11, 12, 14, 15]), (17, [0, 1, 2, 3, 4, 5, 6, 7, 9, 10, 11, 12, 14, 15, 16]), (18, [0, 1, 2, 3, 4, 5, 6, 7, 9, 10, 11, 12, 14, 15]), (19, [0, 1, 2, 3, 4, 5, 6, 7, 9, 10, 11, 12, 14, 15]), (20, [0, 1, 2, 3, 4, 5, 6, 7, 9, 10, 11, 12, 14, 15, 16, 17, 18, 19]), (21, [0, 1, 2, 3, 4, 5, 6, 7, 9, 10, 11, 12, 14, 15, 16, 17, 18, 19, 20]), (22, [0, 1, 2, 3, 4, 5, 6, 7, 9, 10, 11, 12, 14, 15, 16, 17, 18, 19]), (23, [0, 1, 2, 3, 4, 5, 6, 7, 9, 10, 11, 12, 14, 15, 16, 17, 18, 19]), (27, [0, 1, 2, 3, 4, 5, 6, 7, 9, 10, 11, 12, 14, 15, 16, 17, 18, 19, 20, 21, 22, 23]), (8, [0, 1, 2, 3, 4, 5, 9, 10, 11, 12, 14, 15, 16, 17, 18, 19, 20, 21, 22, 23, 27]), (13, [0, 1, 2, 3, 4, 5, 14, 15, 16, 17, 18, 19, 20, 21, 22, 23, 27]), (24, [0, 1, 2, 3, 4, 5, 14, 15, 27]), (25, [0, 1, 2, 3, 4, 5, 27]), (26, [0, 1, 2, 3, 4, 5, 27]), (28, [])] (by decide +kernel) ?_; conv => whnf)
        | (refine RegX.rule (id := 11) hT rfl [] [(0, []), (1, [0]), (2, [0, 1]), (3, [0, 1, 2]), (4, [0, 1, 2]), (5, [0, 1, 2, 3, 4]), (6, [0, 1, 2, 3, 4, 5]), (7, [0, 1, 2, 3, 4, 5, 6]), (8, [])] (by decide +kernel) ?_; conv => whnf)
        | omega
        | (refine And.intro ?_ ?_; ((try dsimp only); first | omega | (refine ⟨by omega, by omega, Int.le_trans (Int.mul_le_mul_of_nonneg_right (Int.ofNat_le.2 (Nat.le_of_ble_eq_true (rfl : Nat.ble _ 1024 = true))) (by omega)) (by omega), by omega⟩) | (refine Nat.le_trans (Nat.mul_le_mul_left _ (Nat.le_of_ble_eq_true (rfl : Nat.ble _ 1024 = true))) ?_; omega) | (unfold inI64; omega) | (constructor <;> omega) | (simp only [inI64, List.length_cons, List.length_append, List.length_nil, List.length_set] at *; omega) | decide | (unfold inI64; decide)); conv => whnf)
        | omega | decide | assumption)
      refine .ret _ ?_
      conv => whnf
      rw [← hq]
      exact ⟨_, ⟨rfl, rfl⟩, Res.le_refl _, trivial⟩
end Go.Proofs.YtnkdlkgannnfhaaGreatDoor
set_option maxRecDepth 20000
namespace Go.Proofs.YtnkdlkgannnfhaaGreatDoor
open Go Go.Eng
def grF : List Int → List DV := fun g => [ints g]
abbrev grsB (l : List (List Int)) : Res := seqB 22 1 grF [] l
abbrev grs (l : List (List Int)) : DV := seqD 1 grF [] l
noncomputable abbrev labM (r : Rul) (l : List Mrk) : Nat → Nat := labC l.length (joinB r l)
/-- The groups of marks, up to a mark. -/
noncomputable def grI (r : Rul) (l : List Mrk) (i : Nat) : List (List Int) := (grpsF l.length (labM r l) i).map toI
noncomputable def grpI (r : Rul) (l : List Mrk) (i : Nat) : List Int := toI (grpF l.length (labM r l) i)
theorem labM_lab (r : Rul) (l : List Mrk) : isLab l.length (joinB r l) (labM r l) := labC_lab _ _
theorem grI_none {r : Rul} {l : List Mrk} {i : Nat} (h : labM r l i ≠ i) : grI r l (i + 1) = grI r l i := by
  unfold grI
  rw [grpsF, if_pos ((labM_lab r l).none (joinB_symm r l) h)]
theorem grI_some {r : Rul} {l : List Mrk} {i : Nat} (hi : i < l.length) (h : labM r l i = i) : grI r l (i + 1) = grI r l i ++ [grpI r l i] := by
  unfold grI grpI
  have : grpF l.length (labM r l) i ≠ [] := fun q => by
    have := isLab.some hi h
    rw [q] at this; simp at this
  rw [grpsF, if_neg this, List.map_append]; rfl
theorem grI_len (r : Rul) (l : List Mrk) : ∀ i, (grI r l i).length ≤ i := by
  intro i
  induction i with
  | zero => exact Nat.le_refl _
  | succ i ih =>
    have h : grI r l (i + 1) = grI r l i ∨ grI r l (i + 1) = grI r l i ++ [grpI r l i] := by
      unfold grI grpI
      rw [grpsF]
      split
      · exact .inl rfl
      · exact .inr (by rw [List.map_append]; rfl)
    rcases h with h | h
    · rw [h]; omega
    · rw [h, List.length_append]; simp; omega
theorem toI_inj {g h : List Nat} (e : toI g = toI h) : g = h := by
  induction g generalizing h with
  | nil => cases h with
    | nil => rfl
    | cons y h => cases e
  | cons x g ih =>
    cases h with
    | nil => cases e
    | cons y h =>
      simp only [toI, List.map_cons, List.cons.injEq] at e
      have h1 : x = y := by have := e.1; exact Int.ofNat.inj this
      rw [h1, ih e.2]

theorem toI_snocC (l : List Nat) (k : Nat) : toI (l ++ [k]) = toI l ++ [(k : Int)] := by simp [toI]
theorem inc_extI : ∀ {l m : List Int}, l.Pairwise (· < ·) → m.Pairwise (· < ·) → (∀ x, x ∈ l ↔ x ∈ m) → l = m := by
  intro l
  induction l with
  | nil =>
    intro m _ _ h
    cases m with
    | nil => rfl
    | cons y m => have := (h y).2 (by simp); simp at this
  | cons x l ih =>
    intro m hl hm h
    cases m with
    | nil => have := (h x).1 (by simp); simp at this
    | cons y m =>
      rw [List.pairwise_cons] at hl hm
      have hxy : x = y := by
        have h1 := (h x).1 (by simp)
        have h2 := (h y).2 (by simp)
        rcases List.mem_cons.1 h1 with q | q
        · exact q
        · rcases List.mem_cons.1 h2 with q2 | q2
          · exact q2.symm
          · have := hm.1 x q; have := hl.1 y q2; omega
      subst hxy
      rw [ih hl.2 hm.2 (fun z => ?_)]
      constructor
      · intro hz
        rcases List.mem_cons.1 ((h z).1 (List.mem_cons_of_mem _ hz)) with q | q
        · subst q; have := hl.1 z hz; omega
        · exact q
      · intro hz
        rcases List.mem_cons.1 ((h z).2 (List.mem_cons_of_mem _ hz)) with q | q
        · subst q; have := hm.1 z hz; omega
        · exact q
theorem toI_inc {g : List Nat} (h : g.Pairwise (· < ·)) : (toI g).Pairwise (· < ·) := by
  unfold toI
  rw [List.pairwise_map]
  exact h.imp (fun q => Int.ofNat_lt.2 q)
theorem toI_mem {g : List Nat} {x : Int} : x ∈ toI g ↔ ∃ k ∈ g, x = (k : Int) := by
  unfold toI
  rw [List.mem_map]
  constructor
  · rintro ⟨k, h1, h2⟩; exact ⟨k, h1, h2.symm⟩
  · rintro ⟨k, h1, h2⟩; exact ⟨k, h1, h2.symm⟩
/-- What is sorted is the group. -/
theorem sort_grp {n : Nat} {f : Nat → Nat} {i : Nat} {g : List Nat} {c : List Int} (hn : g.Nodup) (hg : ∀ k, k < n → (k ∈ g ↔ f k = i)) (hl : ∀ x ∈ g, x < n) (hp : c.Perm (toI g)) (hs : ∀ p q, p < q → q < c.length → c.getD p 0 ≤ c.getD q 0) : c = toI (grpF n f i) := by
  have hnd : c.Nodup := by
    rw [hp.nodup_iff]
    unfold toI List.Nodup
    rw [List.pairwise_map]
    exact (List.nodup_iff_pairwise_ne.1 hn).imp (fun q e => q (Int.ofNat.inj e))
  have hle : c.Pairwise (· ≤ ·) := by
    rw [List.pairwise_iff_getElem]
    intro p q hp hq h
    have := hs p q h hq
    rw [List.getD_eq_getElem?_getD, List.getD_eq_getElem?_getD, List.getElem?_eq_getElem hp, List.getElem?_eq_getElem hq] at this
    exact this
  have hlt : c.Pairwise (· < ·) := (hle.and (List.nodup_iff_pairwise_ne.1 hnd)).imp (fun q => by have := q.1; have := q.2; omega)
  refine inc_extI hlt (toI_inc (grpF_inc n f i)) (fun x => ?_)
  rw [hp.mem_iff, toI_mem, toI_mem]
  constructor
  · rintro ⟨k, h1, h2⟩; exact ⟨k, grpF_mem.2 ⟨hl k h1, (hg k (hl k h1)).1 h1⟩, h2⟩
  · rintro ⟨k, h1, h2⟩
    obtain ⟨h3, h4⟩ := grpF_mem.1 h1
    exact ⟨k, (hg k h3).2 h4, h2⟩
def seenOk (r : Rul) (l : List Mrk) (i : Nat) (sn : List Bool) : Prop := sn.length = l.length ∧ ∀ k, k < l.length → (sn.getD k false = true ↔ labM r l k < i)
theorem seen_skip {r : Rul} {l : List Mrk} {i : Nat} {sn : List Bool} (h : seenOk r l i sn) (hi : i < l.length) (hs : sn.getD i false = true) : labM r l i ≠ i ∧ seenOk r l (i + 1) sn := by
  have h1 := (h.2 i hi).1 hs
  refine ⟨by omega, h.1, fun k hk => ?_⟩
  rw [h.2 k hk]
  have : labM r l k ≠ i := fun q => by
    have := (labM_lab r l).idem (joinB_symm r l) hk
    rw [q] at this; omega
  omega
theorem setB_get {l : List Bool} {j k : Nat} {b : Bool} (hj : j < l.length) : (l.set j b).getD k false = if k = j then b else l.getD k false := by
  rw [List.getD_eq_getElem?_getD, List.getElem?_set]
  by_cases h : j = k
  · subst h; simp [hj]
  · rw [if_neg h, if_neg (fun e => h e.symm), List.getD_eq_getElem?_getD]
theorem bfs_start {r : Rul} {l : List Mrk} {i : Nat} {sn : List Bool} (h : seenOk r l i sn) (hi : i < l.length) (hs : sn.getD i false = false) : labM r l i = i ∧ bfs l.length (joinB r l) (labM r l) i (fun k => (sn.set i true).getD k false) [i] := by
  have h1 : labM r l i = i := by
    have h2 := (labM_lab r l).le hi
    have h3 : ¬ labM r l i < i := fun q => by rw [(h.2 i hi).2 q] at hs; cases hs
    omega
  refine ⟨h1, bfs.start (seen := fun k => sn.getD k false) hi h1 h.2 ?_ (fun k hk => ?_)⟩
  · show (sn.set i true).getD i false = true
    rw [setB_get (by rw [h.1]; exact hi), if_pos rfl]
  · show (sn.set i true).getD k false = sn.getD k false
    rw [setB_get (by rw [h.1]; exact hi), if_neg hk]
theorem bfs_add {r : Rul} {l : List Mrk} {i x k : Nat} {sn : List Bool} {g : List Nat} (h : bfs l.length (joinB r l) (labM r l) i (fun k => sn.getD k false) g) (hsl : sn.length = l.length) (hx : x ∈ g) (hk : k < l.length) (hJ : joinB r l k x = true) (hu : sn.getD k false = false) :
    bfs l.length (joinB r l) (labM r l) i (fun y => (sn.set k true).getD y false) (g ++ [k]) :=
  h.add (labM_lab r l) (joinB_symm r l) hx hk hJ hu (by show (sn.set k true).getD k false = true; rw [setB_get (by omega), if_pos rfl]) (fun y hy => by show (sn.set k true).getD y false = sn.getD y false; rw [setB_get (by omega), if_neg hy])
theorem bfs_len {r : Rul} {l : List Mrk} {i : Nat} {sn : Nat → Bool} {g : List Nat} (h : bfs l.length (joinB r l) (labM r l) i sn g) : g.length ≤ l.length := nodup_len h.nodup (fun x hx => (h.ins x hx).1)
-- mark.groups
set_option maxHeartbeats 4000000 in
theorem z191 (r : Rul) (l : List Mrk) (hr : rBd r) (hl12 : l.length ≤ 12) (hl : ∀ i, i < l.length → mBd (l.getD i mk0)) : FSpec Tryz.prog 191 [.agg ((ruF r).map .d), .d (mrks l)] [] (fun y r' => y = .d (grs (grI r l l.length)) ∧ r' = []) := by
  have hjj := sq_bd (x := r.join) (by unfold rBd at hr; omega) (by unfold rBd at hr; omega)
  refine spec_of hT (C := []) Tryz.func191 rfl Tryz.call191 rfl rfl rfl ?_
  conv => whnf
  repeat' (first
    | (refine br_intro (fun hb => ?_) (fun hb => ?_) <;> (try simp only [decide_eq_true_eq, decide_eq_false_iff_not, Bool.not_eq_true', Bool.not_eq_false', Bool.and_eq_true, Bool.or_eq_true, beq_iff_eq, not_and, Int.not_le, Int.not_lt, Int.toNat_natCast, beq_eq_false_iff_ne, ne_eq, eq_self, not_true_eq_false, not_false_eq_true] at hb) <;> (conv => whnf))
    | (refine RegX.rule (id := 15) hT rfl [] [(0, []), (1, [0]), (2, []), (3, []), (4, []), (5, []), (6, []), (7, [6]), (8, []), (9, []), (10, []), (11, [6, 7, 8, 9, 10]), (12, [6, 7, 8, 9, 10, 11]), (13, [6, 7, 8, 9, 10, 11, 12]), (14, [6, 7, 8, 9, 10, 11]), (15, [6, 7, 8, 9, 10, 11]), (16, [6, 7, 8, 9, 10]), (17, [6, 7, 8, 9, 10]), (18, [6, 7, 8, 9, 10]), (19, []), (20, []), (21, []), (22, []), (23, [22]), (24, []), (25, []), (26, [22, 23, 24, 25]), (27, [22, 23, 24, 25, 26]), (28, [22, 23, 24, 25, 26, 27]), (29, [22, 23, 24, 25, 26]), (30, [22, 23, 24, 25, 26]), (31, [22, 23, 24, 25]), (32, [22, 23, 24, 25]), (34, [22, 23, 24, 25, 26, 27, 28, 29, 30, 31, 32]), (35, [22, 23, 24, 25, 26, 27, 28, 29, 30, 31, 32]), (36, [22, 23, 24, 25, 26, 27, 28, 29, 30, 31, 32, 34, 35]), (37, [22, 23, 24, 25, 26, 27, 28, 29, 30, 31, 32, 34, 35]), (38, [22, 23, 24, 25, 26, 27, 28, 29, 30, 31, 32]), (33, [34, 35, 36, 37, 38]), (39, []), (40, [])] (by decide +kernel) ?_; conv => whnf)
    | omega
    | (refine And.intro ?_ ?_; ((try dsimp only); first | omega | (refine ⟨by omega, by omega, Int.le_trans (Int.mul_le_mul_of_nonneg_right (Int.ofNat_le.2 (Nat.le_of_ble_eq_true (rfl : Nat.ble _ 1024 = true))) (by omega)) (by omega), by omega⟩) | (refine Nat.le_trans (Nat.mul_le_mul_left _ (Nat.le_of_ble_eq_true (rfl : Nat.ble _ 1024 = true))) ?_; omega) | (unfold inI64; omega) | (constructor <;> omega) | (simp only [inI64, List.length_cons, List.length_append, List.length_nil, List.length_set] at *; omega) | decide | (unfold inI64; decide)); conv => whnf)
    | omega | decide | assumption)
  refine LoopX.rule hT (C := [27]) (ι := Nat × List Bool) (fun (i, sn) => i ≤ l.length ∧ seenOk r l i sn) (fun (i, sn) => mkSt [(1, .d (mrks l)), (2, .ptr 2 0), (5, .buf 5), (6, .buf 6), (14, .d (mrks l)), (15, .d (.int .i64 l.length)), (16, .d (.int .i64 i))]
    [(2, .cells 76 ((ruF r).map .d)), (5, grsB (grI r l i)), (6, seqB 4 1 bF false sn)]) (fun (i, _) => l.length - i) (0, List.replicate l.length false) ⟨by simp, ?_⟩ ?_ ?_
  · refine ⟨by simp, fun k hk => ?_⟩
    rw [List.getD_eq_getElem?_getD]; simp [hk]
  · refine (Entails.nil 5 5 22 1 (rowF grF [] []) rfl rfl (by decide)).trans (Entails.mk' [(2, 2), (5, 5), (6, 13)] rfl rfl ⟨SV.le_refl _, SV.le_refl _, SV.le_refl _, SV.le_refl _, SV.le_refl _, SV.le_refl _, SV.le_refl _, trivial⟩ ⟨Res.le_refl _, Res.le_refl _, Res.le_buf (by simp) (fun i hi => ?_), trivial⟩)
    have hi' : i < l.length := by simpa using hi
    simp only [rowF]
    rw [List.getD_eq_getElem?_getD]; simp [hi']; rfl
  rintro ⟨i, sn⟩ ⟨p1, p2⟩
  have hsl := p2.1
  have hgl := grI_len r l i
  have e1 : (i : Int).toNat = i := Int.toNat_natCast i
  conv => whnf
  repeat' (first
    | (refine br_intro (fun hb => ?_) (fun hb => ?_) <;> (try simp only [decide_eq_true_eq, decide_eq_false_iff_not, Bool.not_eq_true', Bool.not_eq_false', Bool.and_eq_true, Bool.or_eq_true, beq_iff_eq, not_and, Int.not_le, Int.not_lt, Int.toNat_natCast, beq_eq_false_iff_ne, ne_eq, eq_self, not_true_eq_false, not_false_eq_true] at hb) <;> (conv => whnf))
    | (refine RegX.rule (id := 15) hT rfl [] [(0, []), (1, [0]), (2, []), (3, []), (4, []), (5, []), (6, []), (7, [6]), (8, []), (9, []), (10, []), (11, [6, 7, 8, 9, 10]), (12, [6, 7, 8, 9, 10, 11]), (13, [6, 7, 8, 9, 10, 11, 12]), (14, [6, 7, 8, 9, 10, 11]), (15, [6, 7, 8, 9, 10, 11]), (16, [6, 7, 8, 9, 10]), (17, [6, 7, 8, 9, 10]), (18, [6, 7, 8, 9, 10]), (19, []), (20, []), (21, []), (22, []), (23, [22]), (24, []), (25, []), (26, [22, 23, 24, 25]), (27, [22, 23, 24, 25, 26]), (28, [22, 23, 24, 25, 26, 27]), (29, [22, 23, 24, 25, 26]), (30, [22, 23, 24, 25, 26]), (31, [22, 23, 24, 25]), (32, [22, 23, 24, 25]), (34, [22, 23, 24, 25, 26, 27, 28, 29, 30, 31, 32]), (35, [22, 23, 24, 25, 26, 27, 28, 29, 30, 31, 32]), (36, [22, 23, 24, 25, 26, 27, 28, 29, 30, 31, 32, 34, 35]), (37, [22, 23, 24, 25, 26, 27, 28, 29, 30, 31, 32, 34, 35]), (38, [22, 23, 24, 25, 26, 27, 28, 29, 30, 31, 32]), (33, [34, 35, 36, 37, 38]), (39, []), (40, [])] (by decide +kernel) ?_; conv => whnf)
    | omega
    | (refine And.intro ?_ ?_; ((try dsimp only); first | omega | (refine ⟨by omega, by omega, Int.le_trans (Int.mul_le_mul_of_nonneg_right (Int.ofNat_le.2 (Nat.le_of_ble_eq_true (rfl : Nat.ble _ 1024 = true))) (by omega)) (by omega), by omega⟩) | (refine Nat.le_trans (Nat.mul_le_mul_left _ (Nat.le_of_ble_eq_true (rfl : Nat.ble _ 1024 = true))) ?_; omega) | (unfold inI64; omega) | (constructor <;> omega) | (simp only [inI64, List.length_cons, List.length_append, List.length_nil, List.length_set] at *; omega) | decide | (unfold inI64; decide)); conv => whnf)
    | omega | decide | assumption)
  · obtain ⟨h1, h2⟩ := seen_skip p2 (by omega) (by assumption)
    refine ⟨(i + 1, sn), ⟨by omega, h2⟩, (show l.length - (i + 1) < l.length - i by omega), ?_⟩
    show Entails _ (mkSt _ [(2, .cells 76 ((ruF r).map .d)), (5, grsB (grI r l (i + 1))), (6, seqB 4 1 bF false sn)])
    rw [grI_none h1]
    exact Entails.mk' [(2, 2), (5, 5), (6, 6)] rfl rfl ⟨SV.le_refl _, SV.le_refl _, SV.le_refl _, SV.le_refl _, SV.le_refl _, SV.le_refl _, SV.le_refl _, trivial⟩ ⟨Res.le_refl _, Res.le_refl _, Res.le_refl _, trivial⟩
  · have hi : i < l.length := by omega
    obtain ⟨hlab, hb0⟩ := bfs_start p2 hi (by simpa using hb)
    refine LoopX.rule hT (C := []) (ι := Nat × List Nat × List Bool) (fun (m, g, sn) => m ≤ g.length ∧ sn.length = l.length ∧ bfs l.length (joinB r l) (labM r l) i (fun k => sn.getD k false) g ∧ ∀ s, s < m → ∀ k, k < l.length → joinB r l k (g.getD s 0) = true → sn.getD k false = true)
      (fun (m, g, sn) => mkSt [(1, .d (mrks l)), (2, .ptr 2 0), (5, .buf 5), (6, .buf 6), (8, .buf 8), (9, .d (.int .i64 m)), (14, .d (mrks l)), (15, .d (.int .i64 l.length)), (16, .d (.int .i64 i))]
        [(2, .cells 76 ((ruF r).map .d)), (5, grsB (grI r l i)), (6, seqB 4 1 bF false sn), (8, seqB 3 1 iF 0 (toI g))]) (fun (m, _, _) => l.length - m) (0, [i], sn.set i true) ⟨by simp, by simp [hsl], hb0, fun s hs => by omega⟩ ?_ ?_
    · exact Entails.mk' [(2, 2), (5, 5), (6, 6), (8, 27)] rfl rfl ⟨SV.le_refl _, SV.le_refl _, SV.le_refl _, SV.le_refl _, SV.le_refl _, SV.le_refl _, SV.le_refl _, SV.le_refl _, SV.le_refl _, trivial⟩ ⟨Res.le_refl _, Res.le_refl _, Res.le_upd (fun _ => true) (fun _ => rfl), Res.le_lit rfl rfl, trivial⟩
    rintro ⟨m, g, sn⟩ ⟨m1, m2, m3, m4⟩
    have m1 : m ≤ g.length := m1
    have hgl2 := bfs_len m3
    have htl := toI_len g
    have e2 : (m : Int).toNat = m := Int.toNat_natCast m
    by_cases hm : m < g.length
    · have hK : (toI g).getD m 0 = ((g.getD m 0 : Nat) : Int) := toI_get hm
      have hK2 : (toI g).getD (m : Int).toNat 0 = ((g.getD m 0 : Nat) : Int) := hK
      have hgm : g.getD m 0 ∈ g := getD_mem hm
      have hgx := (m3.ins _ hgm).1
      have hlx := hl _ hgx
      conv => whnf
      repeat' (first
        | (refine br_intro (fun hb => ?_) (fun hb => ?_) <;> (try simp only [decide_eq_true_eq, decide_eq_false_iff_not, Bool.not_eq_true', Bool.not_eq_false', Bool.and_eq_true, Bool.or_eq_true, beq_iff_eq, not_and, Int.not_le, Int.not_lt, Int.toNat_natCast, beq_eq_false_iff_ne, ne_eq, eq_self, not_true_eq_false, not_false_eq_true] at hb) <;> (conv => whnf))
        | (refine RegX.rule (id := 15) hT rfl [] [(0, []), (1, [0]), (2, []), (3, []), (4, []), (5, []), (6, []), (7, [6]), (8, []), (9, []), (10, []), (11, [6, 7, 8, 9, 10]), (12, [6, 7, 8, 9, 10, 11]), (13, [6, 7, 8, 9, 10, 11, 12]), (14, [6, 7, 8, 9, 10, 11]), (15, [6, 7, 8, 9, 10, 11]), (16, [6, 7, 8, 9, 10]), (17, [6, 7, 8, 9, 10]), (18, [6, 7, 8, 9, 10]), (19, []), (20, []), (21, []), (22, []), (23, [22]), (24, []), (25, []), (26, [22, 23, 24, 25]), (27, [22, 23, 24, 25, 26]), (28, [22, 23, 24, 25, 26, 27]), (29, [22, 23, 24, 25, 26]), (30, [22, 23, 24, 25, 26]), (31, [22, 23, 24, 25]), (32, [22, 23, 24, 25]), (34, [22, 23, 24, 25, 26, 27, 28, 29, 30, 31, 32]), (35, [22, 23, 24, 25, 26, 27, 28, 29, 30, 31, 32]), (36, [22, 23, 24, 25, 26, 27, 28, 29, 30, 31, 32, 34, 35]), (37, [22, 23, 24, 25, 26, 27, 28, 29, 30, 31, 32, 34, 35]), (38, [22, 23, 24, 25, 26, 27, 28, 29, 30, 31, 32]), (33, [34, 35, 36, 37, 38]), (39, []), (40, [])] (by decide +kernel) ?_; conv => whnf)
        | omega
        | (refine And.intro ?_ ?_; ((try dsimp only); first | omega | (refine ⟨by omega, by omega, Int.le_trans (Int.mul_le_mul_of_nonneg_right (Int.ofNat_le.2 (Nat.le_of_ble_eq_true (rfl : Nat.ble _ 1024 = true))) (by omega)) (by omega), by omega⟩) | (refine Nat.le_trans (Nat.mul_le_mul_left _ (Nat.le_of_ble_eq_true (rfl : Nat.ble _ 1024 = true))) ?_; omega) | (unfold inI64; omega) | (constructor <;> omega) | (simp only [inI64, List.length_cons, List.length_append, List.length_nil, List.length_set] at *; omega) | decide | (unfold inI64; decide)); conv => whnf)
        | omega | decide | assumption)
      refine LoopX.rule hT (C := []) (ι := Nat × List Nat × List Bool) (fun (k, h, sn) => k ≤ l.length ∧ sn.length = l.length ∧ m < h.length ∧ h.getD m 0 = g.getD m 0 ∧ bfs l.length (joinB r l) (labM r l) i (fun k => sn.getD k false) h ∧ (∀ s, s < m → ∀ k, k < l.length → joinB r l k (h.getD s 0) = true → sn.getD k false = true) ∧ ∀ k', k' < k → joinB r l k' (g.getD m 0) = true → sn.getD k' false = true)
        (fun (k, h, sn) => mkSt [(1, .d (mrks l)), (2, .ptr 2 0), (5, .buf 5), (6, .buf 6), (8, .buf 8), (9, .d (.int .i64 m)), (14, .d (mrks l)), (15, .d (.int .i64 l.length)), (16, .d (.int .i64 i)), (34, .d (mrks l)), (35, .d (.int .i64 l.length)), (36, .d (.int .i64 k))]
          [(2, .cells 76 ((ruF r).map .d)), (5, grsB (grI r l i)), (6, seqB 4 1 bF false sn), (8, seqB 3 1 iF 0 (toI h))]) (fun (k, _, _) => l.length - k) (0, g, sn) ⟨by simp, m2, hm, rfl, m3, m4, fun k' hk' => by omega⟩ ?_ ?_
      · exact Entails.mk' [(2, 2), (5, 5), (6, 6), (8, 8)] rfl rfl ⟨SV.le_refl _, SV.le_refl _, SV.le_refl _, SV.le_refl _, SV.le_refl _, SV.le_refl _, SV.le_refl _, SV.le_refl _, SV.le_refl _, SV.le_refl _, SV.le_refl _, SV.le_refl _, trivial⟩ ⟨Res.le_refl _, Res.le_refl _, Res.le_refl _, Res.le_refl _, trivial⟩
      rintro ⟨k, h, sn⟩ ⟨k1, k2, k3, k4, k5, k6, k7⟩
      have k1 : k ≤ l.length := k1
      have k2 : sn.length = l.length := k2
      have k3 : m < h.length := k3
      have hh2 := bfs_len k5
      have htl2 := toI_len h
      have e3 : (k : Int).toNat = k := Int.toNat_natCast k
      have hH : (toI h).getD m 0 = ((g.getD m 0 : Nat) : Int) := by rw [toI_get k3, k4]
      have hH2 : (toI h).getD (m : Int).toNat 0 = ((g.getD m 0 : Nat) : Int) := hH
      have hHt : ((toI h).getD m 0).toNat = g.getD m 0 := by omega
      have h149 := fun (hk : k < l.length) => z149 (l.getD k mk0) (l.getD ((toI h).getD m 0).toNat mk0) (hl k hk) (by rw [hHt]; exact hlx)
      have hJ : joinB r l k (g.getD m 0) = ((l.getD k mk0).pan == (l.getD ((toI h).getD m 0).toNat mk0).pan && decide (distM (l.getD k mk0) (l.getD ((toI h).getD m 0).toNat mk0) ≤ r.join * r.join)) := by rw [hHt]; rfl
      conv => whnf
      repeat' (first
        | (refine CallX.exact (h149 (by omega)) rfl rfl ?_; rotate_right; conv => whnf)
        | (refine br_intro (fun hb => ?_) (fun hb => ?_) <;> (try simp only [decide_eq_true_eq, decide_eq_false_iff_not, Bool.not_eq_true', Bool.not_eq_false', Bool.and_eq_true, Bool.or_eq_true, beq_iff_eq, not_and, Int.not_le, Int.not_lt, Int.toNat_natCast, beq_eq_false_iff_ne, ne_eq, eq_self, not_true_eq_false, not_false_eq_true] at hb) <;> (conv => whnf))
        | (refine RegX.rule (id := 15) hT rfl [] [(0, []), (1, [0]), (2, []), (3, []), (4, []), (5, []), (6, []), (7, [6]), (8, []), (9, []), (10, []), (11, [6, 7, 8, 9, 10]), (12, [6, 7, 8, 9, 10, 11]), (13, [6, 7, 8, 9, 10, 11, 12]), (14, [6, 7, 8, 9, 10, 11]), (15, [6, 7, 8, 9, 10, 11]), (16, [6, 7, 8, 9, 10]), (17, [6, 7, 8, 9, 10]), (18, [6, 7, 8, 9, 10]), (19, []), (20, []), (21, []), (22, []), (23, [22]), (24, []), (25, []), (26, [22, 23, 24, 25]), (27, [22, 23, 24, 25, 26]), (28, [22, 23, 24, 25, 26, 27]), (29, [22, 23, 24, 25, 26]), (30, [22, 23, 24, 25, 26]), (31, [22, 23, 24, 25]), (32, [22, 23, 24, 25]), (34, [22, 23, 24, 25, 26, 27, 28, 29, 30, 31, 32]), (35, [22, 23, 24, 25, 26, 27, 28, 29, 30, 31, 32]), (36, [22, 23, 24, 25, 26, 27, 28, 29, 30, 31, 32, 34, 35]), (37, [22, 23, 24, 25, 26, 27, 28, 29, 30, 31, 32, 34, 35]), (38, [22, 23, 24, 25, 26, 27, 28, 29, 30, 31, 32]), (33, [34, 35, 36, 37, 38]), (39, []), (40, [])] (by decide +kernel) ?_; conv => whnf)
        | omega
        | (refine And.intro ?_ ?_; ((try dsimp only); first | omega | (refine ⟨by omega, by omega, Int.le_trans (Int.mul_le_mul_of_nonneg_right (Int.ofNat_le.2 (Nat.le_of_ble_eq_true (rfl : Nat.ble _ 1024 = true))) (by omega)) (by omega), by omega⟩) | (refine Nat.le_trans (Nat.mul_le_mul_left _ (Nat.le_of_ble_eq_true (rfl : Nat.ble _ 1024 = true))) ?_; omega) | (unfold inI64; omega) | (constructor <;> omega) | (simp only [inI64, List.length_cons, List.length_append, List.length_nil, List.length_set] at *; omega) | decide | (unfold inI64; decide)); conv => whnf)
        | omega | decide | assumption)
      all_goals first
        | (have hu : sn.getD k false = false := by assumption
           have hjt : joinB r l k (g.getD m 0) = true := by rw [hJ]; clear k6 k7 m4 k5 m3; grind
           have hset : ∀ y, (sn.set k true).getD y false = if y = k then true else sn.getD y false := fun y => setB_get (by omega)
           refine ⟨(k + 1, h ++ [k], sn.set k true), ⟨by omega, by simp [k2], by simp; omega, by rw [getD_app_lt k3]; exact k4, bfs_add k5 k2 (by rw [← k4]; exact getD_mem k3) (by omega) hjt hu, fun s hs k' hk' hj => ?_, fun k' hk' hj => ?_⟩, (show l.length - (k + 1) < l.length - k by omega), ?_⟩
           · rw [getD_app_lt (by omega)] at hj
             rw [hset]
             split
             · rfl
             · exact k6 s hs k' hk' hj
           · rw [hset]
             split
             · rfl
             · exact k7 k' (by omega) hj
           · show Entails _ (mkSt _ [(2, .cells 76 ((ruF r).map .d)), (5, grsB (grI r l i)), (6, seqB 4 1 bF false (sn.set k true)), (8, seqB 3 1 iF 0 (toI (h ++ [k])))])
             rw [toI_snocC]
             exact Entails.mk' [(2, 2), (5, 5), (6, 6), (8, 86)] rfl rfl ⟨SV.le_refl _, SV.le_refl _, SV.le_refl _, SV.le_refl _, SV.le_refl _, SV.le_refl _, SV.le_refl _, SV.le_refl _, SV.le_refl _, SV.le_refl _, SV.le_refl _, SV.le_refl _, trivial⟩ ⟨Res.le_refl _, Res.le_refl _, Res.le_upd (fun _ => true) (fun _ => rfl), Res.le_snocF (x := (k : Int)) rfl, trivial⟩)
        | (have hk : k < l.length := by omega
           refine ⟨(k + 1, h, sn), ⟨by omega, k2, k3, k4, k5, k6, fun k' hk' hj => ?_⟩, (show l.length - (k + 1) < l.length - k by omega), Entails.mk' [(2, 2), (5, 5), (6, 6), (8, 8)] rfl rfl ⟨SV.le_refl _, SV.le_refl _, SV.le_refl _, SV.le_refl _, SV.le_refl _, SV.le_refl _, SV.le_refl _, SV.le_refl _, SV.le_refl _, SV.le_refl _, SV.le_refl _, SV.le_refl _, trivial⟩ ⟨Res.le_refl _, Res.le_refl _, Res.le_refl _, Res.le_refl _, trivial⟩⟩
           by_cases e : k' = k
           · subst e
             rw [hJ] at hj
             clear k6 k7 m4 k5 m3
             grind
           · exact k7 k' (by omega) hj)
        | (have hk : k = l.length := by omega
           refine ⟨(m + 1, h, sn), ⟨by omega, k2, k5, fun s hs k' hk' hj => ?_⟩, (show l.length - (m + 1) < l.length - m by omega), Entails.mk' [(2, 2), (5, 5), (6, 6), (8, 8)] rfl rfl ⟨SV.le_refl _, SV.le_refl _, SV.le_refl _, SV.le_refl _, SV.le_refl _, SV.le_refl _, SV.le_refl _, SV.le_refl _, SV.le_refl _, trivial⟩ ⟨Res.le_refl _, Res.le_refl _, Res.le_refl _, Res.le_refl _, trivial⟩⟩
           by_cases e : s = m
           · subst e
             rw [k4] at hj
             exact k7 k' (by omega) hj
           · exact k6 s (by omega) k' hk' hj)
    · have hall := m3.all (labM_lab r l) (joinB_symm r l) (fun x hx k hk hj => by
        obtain ⟨s, hs, rfl⟩ := List.mem_iff_getElem.1 hx
        refine m4 s (by omega) k hk ?_
        rw [List.getD_eq_getElem?_getD, List.getElem?_eq_getElem hs]; exact hj)
      conv => whnf
      repeat' (first
        | (refine br_intro (fun hb => ?_) (fun hb => ?_) <;> (try simp only [decide_eq_true_eq, decide_eq_false_iff_not, Bool.not_eq_true', Bool.not_eq_false', Bool.and_eq_true, Bool.or_eq_true, beq_iff_eq, not_and, Int.not_le, Int.not_lt, Int.toNat_natCast, beq_eq_false_iff_ne, ne_eq, eq_self, not_true_eq_false, not_false_eq_true] at hb) <;> (conv => whnf))
        | (refine RegX.rule (id := 15) hT rfl [] [(0, []), (1, [0]), (2, []), (3, []), (4, []), (5, []), (6, []), (7, [6]), (8, []), (9, []), (10, []), (11, [6, 7, 8, 9, 10]), (12, [6, 7, 8, 9, 10, 11]), (13, [6, 7, 8, 9, 10, 11, 12]), (14, [6, 7, 8, 9, 10, 11]), (15, [6, 7, 8, 9, 10, 11]), (16, [6, 7, 8, 9, 10]), (17, [6, 7, 8, 9, 10]), (18, [6, 7, 8, 9, 10]), (19, []), (20, []), (21, []), (22, []), (23, [22]), (24, []), (25, []), (26, [22, 23, 24, 25]), (27, [22, 23, 24, 25, 26]), (28, [22, 23, 24, 25, 26, 27]), (29, [22, 23, 24, 25, 26]), (30, [22, 23, 24, 25, 26]), (31, [22, 23, 24, 25]), (32, [22, 23, 24, 25]), (34, [22, 23, 24, 25, 26, 27, 28, 29, 30, 31, 32]), (35, [22, 23, 24, 25, 26, 27, 28, 29, 30, 31, 32]), (36, [22, 23, 24, 25, 26, 27, 28, 29, 30, 31, 32, 34, 35]), (37, [22, 23, 24, 25, 26, 27, 28, 29, 30, 31, 32, 34, 35]), (38, [22, 23, 24, 25, 26, 27, 28, 29, 30, 31, 32]), (33, [34, 35, 36, 37, 38]), (39, []), (40, [])] (by decide +kernel) ?_; conv => whnf)
        | omega
        | (refine And.intro ?_ ?_; ((try dsimp only); first | omega | (refine ⟨by omega, by omega, Int.le_trans (Int.mul_le_mul_of_nonneg_right (Int.ofNat_le.2 (Nat.le_of_ble_eq_true (rfl : Nat.ble _ 1024 = true))) (by omega)) (by omega), by omega⟩) | (refine Nat.le_trans (Nat.mul_le_mul_left _ (Nat.le_of_ble_eq_true (rfl : Nat.ble _ 1024 = true))) ?_; omega) | (unfold inI64; omega) | (constructor <;> omega) | (simp only [inI64, List.length_cons, List.length_append, List.length_nil, List.length_set] at *; omega) | decide | (unfold inI64; decide)); conv => whnf)
        | omega | decide | assumption)
      refine CallX.of (z185 (toI g) (by omega)) [(1000001, 8)] rfl ⟨SV.le_refl _, trivial⟩ ⟨Res.le_refl _, trivial⟩ rfl rfl ?_
      rintro x rout ⟨rfl, c, hp, hs, rfl⟩
      refine ⟨rfl, ?_⟩
      have hc : c = grpI r l i := sort_grp m3.nodup hall (fun x hx => (m3.ins x hx).1) hp hs
      subst hc
      conv => whnf
      repeat' (first
        | (refine br_intro (fun hb => ?_) (fun hb => ?_) <;> (try simp only [decide_eq_true_eq, decide_eq_false_iff_not, Bool.not_eq_true', Bool.not_eq_false', Bool.and_eq_true, Bool.or_eq_true, beq_iff_eq, not_and, Int.not_le, Int.not_lt, Int.toNat_natCast, beq_eq_false_iff_ne, ne_eq, eq_self, not_true_eq_false, not_false_eq_true] at hb) <;> (conv => whnf))
        | (refine RegX.rule (id := 15) hT rfl [] [(0, []), (1, [0]), (2, []), (3, []), (4, []), (5, []), (6, []), (7, [6]), (8, []), (9, []), (10, []), (11, [6, 7, 8, 9, 10]), (12, [6, 7, 8, 9, 10, 11]), (13, [6, 7, 8, 9, 10, 11, 12]), (14, [6, 7, 8, 9, 10, 11]), (15, [6, 7, 8, 9, 10, 11]), (16, [6, 7, 8, 9, 10]), (17, [6, 7, 8, 9, 10]), (18, [6, 7, 8, 9, 10]), (19, []), (20, []), (21, []), (22, []), (23, [22]), (24, []), (25, []), (26, [22, 23, 24, 25]), (27, [22, 23, 24, 25, 26]), (28, [22, 23, 24, 25, 26, 27]), (29, [22, 23, 24, 25, 26]), (30, [22, 23, 24, 25, 26]), (31, [22, 23, 24, 25]), (32, [22, 23, 24, 25]), (34, [22, 23, 24, 25, 26, 27, 28, 29, 30, 31, 32]), (35, [22, 23, 24, 25, 26, 27, 28, 29, 30, 31, 32]), (36, [22, 23, 24, 25, 26, 27, 28, 29, 30, 31, 32, 34, 35]), (37, [22, 23, 24, 25, 26, 27, 28, 29, 30, 31, 32, 34, 35]), (38, [22, 23, 24, 25, 26, 27, 28, 29, 30, 31, 32]), (33, [34, 35, 36, 37, 38]), (39, []), (40, [])] (by decide +kernel) ?_; conv => whnf)
        | omega
        | (refine And.intro ?_ ?_; ((try dsimp only); first | omega | (refine ⟨by omega, by omega, Int.le_trans (Int.mul_le_mul_of_nonneg_right (Int.ofNat_le.2 (Nat.le_of_ble_eq_true (rfl : Nat.ble _ 1024 = true))) (by omega)) (by omega), by omega⟩) | (refine Nat.le_trans (Nat.mul_le_mul_left _ (Nat.le_of_ble_eq_true (rfl : Nat.ble _ 1024 = true))) ?_; omega) | (unfold inI64; omega) | (constructor <;> omega) | (simp only [inI64, List.length_cons, List.length_append, List.length_nil, List.length_set] at *; omega) | decide | (unfold inI64; decide)); conv => whnf)
        | omega | decide | assumption)
      refine ⟨(i + 1, sn), ⟨by omega, m2, m3.next hall⟩, (show l.length - (i + 1) < l.length - i by omega), ?_⟩
      show Entails _ (mkSt _ [(2, .cells 76 ((ruF r).map .d)), (5, grsB (grI r l (i + 1))), (6, seqB 4 1 bF false sn)])
      rw [grI_some hi hlab]
      exact Entails.mk' [(2, 2), (5, 93), (6, 6)] rfl rfl ⟨SV.le_refl _, SV.le_refl _, SV.le_refl _, SV.le_refl _, SV.le_refl _, SV.le_refl _, SV.le_refl _, trivial⟩ ⟨Res.le_refl _, Res.le_snocF (x := grpI r l i) rfl, Res.le_refl _, trivial⟩
  · obtain rfl : i = l.length := by omega
    refine .freeze _ 5 22 1 _ _ rfl (.weak _ ?_)
    conv => whnf
    exact ⟨_, [], SV.le_refl _, ⟨rfl, rfl⟩, trivial⟩
end Go.Proofs.YtnkdlkgannnfhaaGreatDoor
set_option maxRecDepth 20000
namespace Go.Proofs.YtnkdlkgannnfhaaGreatDoor
open Go Go.Eng
theorem SV.le_take {α : Type} {f : α → List DV} {d : α} {l : List α} {k m : Nat} {get : Nat → List DV} (hg : ∀ i, i < l.length → get i = rowF f d l i) (hm : m ≤ l.length) :
    SV.le (.d (.ro k m fun i => get (0 + i))) (.d (seqD k f d (l.take m))) :=
  SV.le_ro (by rw [List.length_take]; omega) (fun i hi => by
    rw [Nat.zero_add, hg i (by omega)]
    simp only [rowF]
    rw [List.getD_eq_getElem?_getD, List.getD_eq_getElem?_getD, List.getElem?_take_of_lt hi])
theorem allK_take {α : Type} {K : α → Prop} {l : List α} {k m : Nat} (h : allK K k l) : allK K k (l.take m) :=
  ⟨by rw [List.length_take]; have := h.1; omega, fun x hx => h.2 x (List.mem_of_mem_take hx)⟩
def pnG (x : Pnl) : Prop := x.key.length ≤ 8
def pnLit (u1 u2 u3 : Int) : List Pnl := [⟨[100, 111, 111, 114], 1000, 800, u1⟩, ⟨[104, 111, 111, 100], u2, 900, u3⟩, ⟨[114, 111, 111, 102], 300, 300, 4000⟩]
theorem pnLit_ok (u1 u2 u3 : Int) : allK pnG 3 (pnLit u1 u2 u3) := ⟨Nat.le_refl _, by intro x hx; simp [pnLit] at hx; rcases hx with rfl | rfl | rfl <;> simp [pnG]⟩
theorem pnLit_rows (u1 u2 u3 : Int) : ∀ i, i < (pnLit u1 u2 u3).length → [[DV.str [100, 111, 111, 114], .int .i64 1000, .int .i64 800, .int .i64 u1], [.str [104, 111, 111, 100], .int .i64 u2, .int .i64 900, .int .i64 u3], [.str [114, 111, 111, 102], .int .i64 300, .int .i64 300, .int .i64 4000]].getD i [] = rowF pnF pn0 (pnLit u1 u2 u3) i := rows_lit rfl
theorem pick3 {u : Int} (h : u ∈ ([1, 2, 3, 3] : List Int)) : 0 ≤ u ∧ u ≤ 3 := by
  simp only [List.mem_cons, List.not_mem_nil, or_false] at h; omega
-- Panels
theorem s95 (n : Nat) (L : Nat → Int) (hL : Rok n L) (a : Int) (h0 : 0 ≤ a) (ha : a ≤ 2^38) :
    FSpec Tryz.prog 62 [.ptr 1000000 0] [(1000000, strm n L a)] (fun y r => (∃ l, allK pnG 3 l ∧ y = .d (pnls l)) ∧ Moved n L a 20 r) := by
  refine spec_of hT (C := [17]) Tryz.func62 rfl Tryz.call62 rfl rfl rfl ?_
  conv => whnf
  repeat' (first
    | (refine CallX.of (s33 n L hL _ ?_ ?_ [0, 3000, 9000] ?_ ?_) [(1000000, 1000000)] rfl ⟨SV.le_refl _, SV.le_lit rfl rfl, trivial⟩ ⟨Res.le_refl _, trivial⟩ rfl rfl ?_; rotate_right; rintro x rout ⟨⟨u1, hu1, rfl⟩, ⟨c, c1, c2, rfl⟩⟩; refine ⟨rfl, ?_⟩; conv => whnf)
    | (refine CallX.of (s33 n L hL _ ?_ ?_ [50, 1200] ?_ ?_) [(1000000, 1000000)] rfl ⟨SV.le_refl _, SV.le_lit rfl rfl, trivial⟩ ⟨Res.le_refl _, trivial⟩ rfl rfl ?_; rotate_right; rintro x rout ⟨⟨u2, hu2, rfl⟩, ⟨c, c1, c2, rfl⟩⟩; refine ⟨rfl, ?_⟩; conv => whnf)
    | (refine CallX.of (s33 n L hL _ ?_ ?_ [5000, 1000000] ?_ ?_) [(1000000, 1000000)] rfl ⟨SV.le_refl _, SV.le_lit rfl rfl, trivial⟩ ⟨Res.le_refl _, trivial⟩ rfl rfl ?_; rotate_right; rintro x rout ⟨⟨u3, hu3, rfl⟩, ⟨c, c1, c2, rfl⟩⟩; refine ⟨rfl, ?_⟩; conv => whnf)
    | (refine CallX.of (s84 n L hL _ ?_ ?_ _ ?_) [(1000000, 1000000)] rfl ⟨SV.le_refl _, SV.le_refl _, trivial⟩ ⟨Res.le_refl _, trivial⟩ rfl rfl ?_; rotate_right; rintro x rout ⟨⟨f, rfl⟩, ⟨c, c1, c2, rfl⟩⟩; refine ⟨rfl, ?_⟩; conv => whnf)
    | (refine CallX.of (s86 n L hL _ ?_ ?_ _ ?_) [(1000000, 1000000)] rfl ⟨SV.le_refl _, SV.le_refl _, trivial⟩ ⟨Res.le_refl _, trivial⟩ rfl rfl ?_; rotate_right; rintro x rout ⟨⟨j, hj1, hj2, hj3, rfl⟩, ⟨c, c1, c2, rfl⟩⟩; refine ⟨rfl, ?_⟩; conv => whnf)
    | (refine CallX.of (s15 n L hL _ ?_ ?_ [_, [], [100, 111, 111, 114]] (by simp) (by simp)) [(1000000, 1000000)] rfl ⟨SV.le_refl _, SV.le_lit rfl rfl, trivial⟩ ⟨Res.le_refl _, trivial⟩ rfl rfl ?_; rotate_right; rintro x rout ⟨⟨u4, hu4, rfl⟩, ⟨c, c1, c2, rfl⟩⟩; refine ⟨rfl, ?_⟩; conv => whnf)
    | (refine CallX.of (s104 n L hL _ ?_ ?_ 1 5000 ?_ ?_ ?_) [(1000000, 1000000)] rfl ⟨SV.le_refl _, SV.le_refl _, SV.le_refl _, trivial⟩ ⟨Res.le_refl _, trivial⟩ rfl rfl ?_; rotate_right; rintro x rout ⟨⟨u5, hk1, hk2, rfl⟩, ⟨c, c1, c2, rfl⟩⟩; refine ⟨rfl, ?_⟩; conv => whnf)
    | (refine CallX.of (s104 n L hL _ ?_ ?_ 0 1000000 ?_ ?_ ?_) [(1000000, 1000000)] rfl ⟨SV.le_refl _, SV.le_refl _, SV.le_refl _, trivial⟩ ⟨Res.le_refl _, trivial⟩ rfl rfl ?_; rotate_right; rintro x rout ⟨⟨u6, hk3, hk4, rfl⟩, ⟨c, c1, c2, rfl⟩⟩; refine ⟨rfl, ?_⟩; conv => whnf)
    | (refine CallX.of (s33 n L hL _ ?_ ?_ [1, 2, 3, 3] ?_ ?_) [(1000000, 1000000)] rfl ⟨SV.le_refl _, SV.le_lit rfl rfl, trivial⟩ ⟨Res.le_refl _, trivial⟩ rfl rfl ?_; rotate_right; rintro x rout ⟨⟨u7, hu7, rfl⟩, ⟨c, c1, c2, rfl⟩⟩; have hw7 := pick3 hu7; refine ⟨rfl, ?_⟩; conv => whnf)
    | (refine SliceX.freeze 225 4 _ _ rfl ?_; conv => whnf)
    | (refine br_intro (fun hb => ?_) (fun hb => ?_) <;> (try simp only [decide_eq_true_eq, decide_eq_false_iff_not, Bool.not_eq_true', Bool.not_eq_false', Bool.and_eq_true, Bool.or_eq_true, beq_iff_eq, not_and, Int.not_le, Int.not_lt, Int.toNat_natCast, beq_eq_false_iff_ne, ne_eq, eq_self, not_true_eq_false, not_false_eq_true] at hb) <;> (conv => whnf))
    | omega
    | (refine And.intro ?_ ?_; ((try dsimp only); first | omega | (refine ⟨by omega, by omega, Int.le_trans (Int.mul_le_mul_of_nonneg_right (Int.ofNat_le.2 (Nat.le_of_ble_eq_true (rfl : Nat.ble _ 1024 = true))) (by omega)) (by omega), by omega⟩) | (refine Nat.le_trans (Nat.mul_le_mul_left _ (Nat.le_of_ble_eq_true (rfl : Nat.ble _ 1024 = true))) ?_; omega) | (unfold inI64; omega) | (constructor <;> omega) | (simp only [inI64, List.length_cons, List.length_append, List.length_nil, List.length_set] at *; omega) | decide | (unfold inI64; decide)); conv => whnf)
    | omega | decide | assumption)
  · have hj : j = 0 ∨ j = 1 ∨ j = 2 := by omega
    rcases hj with rfl | rfl | rfl
    all_goals
      conv => whnf
      repeat' (first
        | (refine CallX.of (s33 n L hL _ ?_ ?_ [0, 3000, 9000] ?_ ?_) [(1000000, 1000000)] rfl ⟨SV.le_refl _, SV.le_lit rfl rfl, trivial⟩ ⟨Res.le_refl _, trivial⟩ rfl rfl ?_; rotate_right; rintro x rout ⟨⟨u1, hu1, rfl⟩, ⟨c, c1, c2, rfl⟩⟩; refine ⟨rfl, ?_⟩; conv => whnf)
        | (refine CallX.of (s33 n L hL _ ?_ ?_ [50, 1200] ?_ ?_) [(1000000, 1000000)] rfl ⟨SV.le_refl _, SV.le_lit rfl rfl, trivial⟩ ⟨Res.le_refl _, trivial⟩ rfl rfl ?_; rotate_right; rintro x rout ⟨⟨u2, hu2, rfl⟩, ⟨c, c1, c2, rfl⟩⟩; refine ⟨rfl, ?_⟩; conv => whnf)
        | (refine CallX.of (s33 n L hL _ ?_ ?_ [5000, 1000000] ?_ ?_) [(1000000, 1000000)] rfl ⟨SV.le_refl _, SV.le_lit rfl rfl, trivial⟩ ⟨Res.le_refl _, trivial⟩ rfl rfl ?_; rotate_right; rintro x rout ⟨⟨u3, hu3, rfl⟩, ⟨c, c1, c2, rfl⟩⟩; refine ⟨rfl, ?_⟩; conv => whnf)
        | (refine CallX.of (s84 n L hL _ ?_ ?_ _ ?_) [(1000000, 1000000)] rfl ⟨SV.le_refl _, SV.le_refl _, trivial⟩ ⟨Res.le_refl _, trivial⟩ rfl rfl ?_; rotate_right; rintro x rout ⟨⟨f, rfl⟩, ⟨c, c1, c2, rfl⟩⟩; refine ⟨rfl, ?_⟩; conv => whnf)
        | (refine CallX.of (s86 n L hL _ ?_ ?_ _ ?_) [(1000000, 1000000)] rfl ⟨SV.le_refl _, SV.le_refl _, trivial⟩ ⟨Res.le_refl _, trivial⟩ rfl rfl ?_; rotate_right; rintro x rout ⟨⟨j, hj1, hj2, hj3, rfl⟩, ⟨c, c1, c2, rfl⟩⟩; refine ⟨rfl, ?_⟩; conv => whnf)
        | (refine CallX.of (s15 n L hL _ ?_ ?_ [_, [], [100, 111, 111, 114]] (by simp) (by simp)) [(1000000, 1000000)] rfl ⟨SV.le_refl _, SV.le_lit rfl rfl, trivial⟩ ⟨Res.le_refl _, trivial⟩ rfl rfl ?_; rotate_right; rintro x rout ⟨⟨u4, hu4, rfl⟩, ⟨c, c1, c2, rfl⟩⟩; refine ⟨rfl, ?_⟩; conv => whnf)
        | (refine CallX.of (s104 n L hL _ ?_ ?_ 1 5000 ?_ ?_ ?_) [(1000000, 1000000)] rfl ⟨SV.le_refl _, SV.le_refl _, SV.le_refl _, trivial⟩ ⟨Res.le_refl _, trivial⟩ rfl rfl ?_; rotate_right; rintro x rout ⟨⟨u5, hk1, hk2, rfl⟩, ⟨c, c1, c2, rfl⟩⟩; refine ⟨rfl, ?_⟩; conv => whnf)
        | (refine CallX.of (s104 n L hL _ ?_ ?_ 0 1000000 ?_ ?_ ?_) [(1000000, 1000000)] rfl ⟨SV.le_refl _, SV.le_refl _, SV.le_refl _, trivial⟩ ⟨Res.le_refl _, trivial⟩ rfl rfl ?_; rotate_right; rintro x rout ⟨⟨u6, hk3, hk4, rfl⟩, ⟨c, c1, c2, rfl⟩⟩; refine ⟨rfl, ?_⟩; conv => whnf)
        | (refine CallX.of (s33 n L hL _ ?_ ?_ [1, 2, 3, 3] ?_ ?_) [(1000000, 1000000)] rfl ⟨SV.le_refl _, SV.le_lit rfl rfl, trivial⟩ ⟨Res.le_refl _, trivial⟩ rfl rfl ?_; rotate_right; rintro x rout ⟨⟨u7, hu7, rfl⟩, ⟨c, c1, c2, rfl⟩⟩; have hw7 := pick3 hu7; refine ⟨rfl, ?_⟩; conv => whnf)
        | (refine SliceX.freeze 225 4 _ _ rfl ?_; conv => whnf)
        | (refine br_intro (fun hb => ?_) (fun hb => ?_) <;> (try simp only [decide_eq_true_eq, decide_eq_false_iff_not, Bool.not_eq_true', Bool.not_eq_false', Bool.and_eq_true, Bool.or_eq_true, beq_iff_eq, not_and, Int.not_le, Int.not_lt, Int.toNat_natCast, beq_eq_false_iff_ne, ne_eq, eq_self, not_true_eq_false, not_false_eq_true] at hb) <;> (conv => whnf))
        | omega
        | (refine And.intro ?_ ?_; ((try dsimp only); first | omega | (refine ⟨by omega, by omega, Int.le_trans (Int.mul_le_mul_of_nonneg_right (Int.ofNat_le.2 (Nat.le_of_ble_eq_true (rfl : Nat.ble _ 1024 = true))) (by omega)) (by omega), by omega⟩) | (refine Nat.le_trans (Nat.mul_le_mul_left _ (Nat.le_of_ble_eq_true (rfl : Nat.ble _ 1024 = true))) ?_; omega) | (unfold inI64; omega) | (constructor <;> omega) | (simp only [inI64, List.length_cons, List.length_append, List.length_nil, List.length_set] at *; omega) | decide | (unfold inI64; decide)); conv => whnf)
        | omega | decide | assumption)
      refine .weak _ ?_
      (conv => whnf)
      have hu : u4.length ≤ 8 := mem_len hu4 rfl
      refine ⟨_, [(1000000, strm n L _)], SV.le_take (f := pnF) (d := pn0) (rows_updG (rows_updG (rows_updG (pnLit_rows u1 u2 u3) (fun y : Pnl => (⟨u4, y.w, y.h, y.pr⟩ : Pnl)) (fun _ => rfl)) (fun y : Pnl => (⟨y.key, u5, y.h, y.pr⟩ : Pnl)) (fun _ => rfl)) (fun y : Pnl => (⟨y.key, y.w, y.h, u6⟩ : Pnl)) (fun _ => rfl)) (by simp [pnLit]; omega), ⟨⟨_, ?_, rfl⟩, _, by omega, by omega, rfl⟩, Res.le_refl _, trivial⟩
      exact allK_take (allK_upd (g := fun y : Pnl => (⟨y.key, y.w, y.h, u6⟩ : Pnl)) (allK_upd (g := fun y : Pnl => (⟨y.key, u5, y.h, y.pr⟩ : Pnl)) (allK_upd (g := fun y : Pnl => (⟨u4, y.w, y.h, y.pr⟩ : Pnl)) (pnLit_ok u1 u2 u3) (fun y hy => hu)) (fun y hy => hy)) (fun y hy => hy))
  · refine .weak _ ?_
    (conv => whnf)
    exact ⟨_, [(1000000, strm n L _)], SV.le_take (l := pnLit u1 u2 u3) (pnLit_rows u1 u2 u3) (by show (u7 - 0).toNat ≤ 3; omega), ⟨⟨_, allK_take (pnLit_ok u1 u2 u3), rfl⟩, _, by omega, by omega, rfl⟩, Res.le_refl _, trivial⟩
-- Rules
theorem s97 (n : Nat) (L : Nat → Int) (hL : Rok n L) (a : Int) (h0 : 0 ≤ a) (ha : a ≤ 2^38) :
    FSpec Tryz.prog 63 [.ptr 1000000 0] [(1000000, strm n L a)] (fun y r => (∃ z : Rul, y = .agg ((ruF z).map .d)) ∧ Moved n L a 20 r) := by
  refine spec_of hT (C := []) Tryz.func63 rfl Tryz.call63 rfl rfl rfl ?_
  conv => whnf
  repeat' (first
    | (refine CallX.of (s33 n L hL _ ?_ ?_ [0, 5, 13, 20, 20, 50] ?_ ?_) [(1000000, 1000000)] rfl ⟨SV.le_refl _, SV.le_lit rfl rfl, trivial⟩ ⟨Res.le_refl _, trivial⟩ rfl rfl ?_; rotate_right; rintro x rout ⟨⟨u1, hu1, rfl⟩, ⟨c, c1, c2, rfl⟩⟩; refine ⟨rfl, ?_⟩; conv => whnf)
    | (refine CallX.of (s33 n L hL _ ?_ ?_ [0, 1, 2, 2] ?_ ?_) [(1000000, 1000000)] rfl ⟨SV.le_refl _, SV.le_lit rfl rfl, trivial⟩ ⟨Res.le_refl _, trivial⟩ rfl rfl ?_; rotate_right; rintro x rout ⟨⟨u2, hu2, rfl⟩, ⟨c, c1, c2, rfl⟩⟩; refine ⟨rfl, ?_⟩; conv => whnf)
    | (refine CallX.of (s33 n L hL _ ?_ ?_ [0, 10, 30, 50, 100] ?_ ?_) [(1000000, 1000000)] rfl ⟨SV.le_refl _, SV.le_lit rfl rfl, trivial⟩ ⟨Res.le_refl _, trivial⟩ rfl rfl ?_; rotate_right; rintro x rout ⟨⟨u3, hu3, rfl⟩, ⟨c, c1, c2, rfl⟩⟩; refine ⟨rfl, ?_⟩; conv => whnf)
    | (refine CallX.of (s33 n L hL _ ?_ ?_ [0, 333, 500, 1000] ?_ ?_) [(1000000, 1000000)] rfl ⟨SV.le_refl _, SV.le_lit rfl rfl, trivial⟩ ⟨Res.le_refl _, trivial⟩ rfl rfl ?_; rotate_right; rintro x rout ⟨⟨u4, hu4, rfl⟩, ⟨c, c1, c2, rfl⟩⟩; refine ⟨rfl, ?_⟩; conv => whnf)
    | (refine CallX.of (s84 n L hL _ ?_ ?_ _ ?_) [(1000000, 1000000)] rfl ⟨SV.le_refl _, SV.le_refl _, trivial⟩ ⟨Res.le_refl _, trivial⟩ rfl rfl ?_; rotate_right; rintro x rout ⟨⟨f, rfl⟩, ⟨c, c1, c2, rfl⟩⟩; refine ⟨rfl, ?_⟩; conv => whnf)
    | (refine CallX.of (s104 n L hL _ ?_ ?_ _ _ ?_ ?_ ?_) [(1000000, 1000000)] rfl ⟨SV.le_refl _, SV.le_refl _, SV.le_refl _, trivial⟩ ⟨Res.le_refl _, trivial⟩ rfl rfl ?_; rotate_right; rintro x rout ⟨⟨u5, hk1, hk2, rfl⟩, ⟨c, c1, c2, rfl⟩⟩; refine ⟨rfl, ?_⟩; conv => whnf)
    | (refine br_intro (fun hb => ?_) (fun hb => ?_) <;> (try simp only [decide_eq_true_eq, decide_eq_false_iff_not, Bool.not_eq_true', Bool.not_eq_false', Bool.and_eq_true, Bool.or_eq_true, beq_iff_eq, not_and, Int.not_le, Int.not_lt, Int.toNat_natCast, beq_eq_false_iff_ne, ne_eq, eq_self, not_true_eq_false, not_false_eq_true] at hb) <;> (conv => whnf))
    | omega
    | (refine And.intro ?_ ?_; ((try dsimp only); first | omega | (refine ⟨by omega, by omega, Int.le_trans (Int.mul_le_mul_of_nonneg_right (Int.ofNat_le.2 (Nat.le_of_ble_eq_true (rfl : Nat.ble _ 1024 = true))) (by omega)) (by omega), by omega⟩) | (refine Nat.le_trans (Nat.mul_le_mul_left _ (Nat.le_of_ble_eq_true (rfl : Nat.ble _ 1024 = true))) ?_; omega) | (unfold inI64; omega) | (constructor <;> omega) | (simp only [inI64, List.length_cons, List.length_append, List.length_nil, List.length_set] at *; omega) | decide | (unfold inI64; decide)); conv => whnf)
    | omega | decide | assumption)
  all_goals
    refine .ret _ ?_
    conv => whnf
    exact ⟨[(1000000, strm n L _)], ⟨⟨⟨_, _, _, _⟩, rfl⟩, _, by omega, by omega, rfl⟩, Res.le_refl _, trivial⟩
def mkB (c : Int) (m : Mrk) : Prop := m.pan.length ≤ 8 ∧ (-c ≤ m.x ∧ m.x ≤ c) ∧ (-c ≤ m.y ∧ m.y ≤ c) ∧ (-c ≤ m.size ∧ m.size ≤ c)
abbrev mkG (m : Mrk) : Prop := mkB 1099511627776 m
theorem pk {l : List Int} {x : Int} (h : x ∈ l) (hl : (l.all fun y => decide (-1099511627776 ≤ y) && decide (y ≤ 1099511627776)) = true) : -1099511627776 ≤ x ∧ x ≤ 1099511627776 := by
  have := List.all_eq_true.1 hl x h
  simpa using this
-- Marks
theorem s96 (n : Nat) (L : Nat → Int) (hL : Rok n L) (a : Int) (h0 : 0 ≤ a) (ha : a ≤ 2^38) (m : Int) (hm1 : 0 ≤ m) (hm2 : m ≤ 12) :
    FSpec Tryz.prog 140 [.ptr 1000000 0, .d (.int .i64 m)] [(1000000, strm n L a)] (fun y r => (∃ l, allK mkG m.toNat l ∧ y = .d (mrks l)) ∧ Moved n L a 90 r) := by
  refine spec_of hT (C := []) Tryz.func140 rfl Tryz.call140 rfl rfl rfl ?_
  conv => whnf
  refine LoopX.rule hT (C := []) (ι := Int × List Mrk × Nat) (fun (b, l, k) => (a ≤ b ∧ b ≤ a + 6 * k ∧ (k : Int) ≤ m) ∧ allK mkG k l)
    (fun (b, l, k) => mkSt [(0, .ptr 1000000 0), (5, .buf 5), (7, .d (.int .i64 m)), (8, .d (.int .i64 k))] [(1000000, strm n L b), (5, seqB 133 5 mkF mk0 l)])
    (fun (_, _, k) => 12 - k) (a, [], 0) ⟨⟨by simp, by simp, by simpa using hm1⟩, ⟨by simp, by simp⟩⟩ ?_ ?_
  · exact (Entails.nil 5 5 133 5 (rowF mkF mk0 []) rfl rfl (by decide)).trans (by refine Entails.mk' [(1000000, 1000000), (5, 5)] rfl rfl ?_ ?_ <;> repeat' (first | exact True.intro | exact SV.le_refl _ | exact Res.le_refl _ | exact SV.le_int (by omega) | exact SV.le_any _ | refine And.intro ?_ ?_))
  rintro ⟨b, l, k⟩ ⟨⟨p1, p2, p3⟩, q1⟩
  have hl1 := q1.1
  conv => whnf
  repeat' (first
    | (refine CallX.of (s15 n L hL _ ?_ ?_ [[100, 111, 111, 114], [100, 111, 111, 114], [100, 111, 111, 114], [104, 111, 111, 100]] ?_ ?_) [(1000000, 1000000)] rfl ⟨SV.le_refl _, SV.le_lit rfl rfl, trivial⟩ ⟨Res.le_refl _, trivial⟩ rfl rfl ?_; rotate_right; rintro x rout ⟨⟨u1, hu1, rfl⟩, ⟨c, c1, c2, rfl⟩⟩; refine ⟨rfl, ?_⟩; conv => whnf)
    | (refine CallX.of (s33 n L hL _ ?_ ?_ [1, 1, 1, 2, 3] ?_ ?_) [(1000000, 1000000)] rfl ⟨SV.le_refl _, SV.le_lit rfl rfl, trivial⟩ ⟨Res.le_refl _, trivial⟩ rfl rfl ?_; rotate_right; rintro x rout ⟨⟨u2, hu2, rfl⟩, ⟨c, c1, c2, rfl⟩⟩; refine ⟨rfl, ?_⟩; conv => whnf)
    | (refine CallX.of (s33 n L hL _ ?_ ?_ [0, 10, 20, 30, 40, 40, 100, 140] ?_ ?_) [(1000000, 1000000)] rfl ⟨SV.le_refl _, SV.le_lit rfl rfl, trivial⟩ ⟨Res.le_refl _, trivial⟩ rfl rfl ?_; rotate_right; rintro x rout ⟨⟨u3, hu3, rfl⟩, ⟨c, c1, c2, rfl⟩⟩; refine ⟨rfl, ?_⟩; conv => whnf)
    | (refine CallX.of (s33 n L hL _ ?_ ?_ [0, 0, 10, 20] ?_ ?_) [(1000000, 1000000)] rfl ⟨SV.le_refl _, SV.le_lit rfl rfl, trivial⟩ ⟨Res.le_refl _, trivial⟩ rfl rfl ?_; rotate_right; rintro x rout ⟨⟨u4, hu4, rfl⟩, ⟨c, c1, c2, rfl⟩⟩; refine ⟨rfl, ?_⟩; conv => whnf)
    | (refine CallX.of (s33 n L hL _ ?_ ?_ [1, 5, 8, 10, 12, 50] ?_ ?_) [(1000000, 1000000)] rfl ⟨SV.le_refl _, SV.le_lit rfl rfl, trivial⟩ ⟨Res.le_refl _, trivial⟩ rfl rfl ?_; rotate_right; rintro x rout ⟨⟨u5, hu5, rfl⟩, ⟨c, c1, c2, rfl⟩⟩; refine ⟨rfl, ?_⟩; conv => whnf)
    | (refine br_intro (fun hb => ?_) (fun hb => ?_) <;> (try simp only [decide_eq_true_eq, decide_eq_false_iff_not, Bool.not_eq_true', Bool.not_eq_false', Bool.and_eq_true, Bool.or_eq_true, beq_iff_eq, not_and, Int.not_le, Int.not_lt, Int.toNat_natCast, beq_eq_false_iff_ne, ne_eq, eq_self, not_true_eq_false, not_false_eq_true] at hb) <;> (conv => whnf))
    | omega
    | (refine And.intro ?_ ?_; ((try dsimp only); first | omega | (refine ⟨by omega, by omega, Int.le_trans (Int.mul_le_mul_of_nonneg_right (Int.ofNat_le.2 (Nat.le_of_ble_eq_true (rfl : Nat.ble _ 1024 = true))) (by omega)) (by omega), by omega⟩) | (refine Nat.le_trans (Nat.mul_le_mul_left _ (Nat.le_of_ble_eq_true (rfl : Nat.ble _ 1024 = true))) ?_; omega) | (unfold inI64; omega) | (constructor <;> omega) | (simp only [inI64, List.length_cons, List.length_append, List.length_nil, List.length_set] at *; omega) | decide | (unfold inI64; decide)); conv => whnf)
    | omega | decide | assumption)
  · refine ⟨(_, _, k + 1), ?_, ?_, Entails.mk' [(1000000, 1000000), (5, 28)] rfl rfl ⟨SV.le_refl _, SV.le_refl _, SV.le_refl _, SV.le_refl _, trivial⟩ ⟨Res.le_refl _, Res.le_snocF (x := ⟨_, _, _, _, _⟩) rfl, trivial⟩⟩
    · exact ⟨⟨by omega, by omega, by omega⟩, allK_snoc q1 (Nat.le_refl _) ⟨mem_len hu1 rfl, pk hu3 rfl, pk hu4 rfl, pk hu5 rfl⟩⟩
    · show 12 - (k + 1) < 12 - k; omega
  refine CallX.of (s156 198 mrkCmp l (by omega) (fun p q _ _ => s157 p q)) [(1000001, 5)] rfl ⟨SV.le_refl _, SV.le_refl _, trivial⟩ ⟨Res.le_refl _, trivial⟩ rfl rfl ?_
  rintro x rout ⟨rfl, c, hc, rfl⟩
  refine ⟨rfl, ?_⟩
  conv => whnf
  repeat' (first
    | (refine br_intro (fun hb => ?_) (fun hb => ?_) <;> (try simp only [decide_eq_true_eq, decide_eq_false_iff_not, Bool.not_eq_true', Bool.not_eq_false', Bool.and_eq_true, Bool.or_eq_true, beq_iff_eq, not_and, Int.not_le, Int.not_lt, Int.toNat_natCast, beq_eq_false_iff_ne, ne_eq, eq_self, not_true_eq_false, not_false_eq_true] at hb) <;> (conv => whnf))
    | omega
    | (refine And.intro ?_ ?_; ((try dsimp only); first | omega | (refine ⟨by omega, by omega, Int.le_trans (Int.mul_le_mul_of_nonneg_right (Int.ofNat_le.2 (Nat.le_of_ble_eq_true (rfl : Nat.ble _ 1024 = true))) (by omega)) (by omega), by omega⟩) | (refine Nat.le_trans (Nat.mul_le_mul_left _ (Nat.le_of_ble_eq_true (rfl : Nat.ble _ 1024 = true))) ?_; omega) | (unfold inI64; omega) | (constructor <;> omega) | (simp only [inI64, List.length_cons, List.length_append, List.length_nil, List.length_set] at *; omega) | decide | (unfold inI64; decide)); conv => whnf)
    | omega | decide | assumption)
  refine CallX.of (s158 c (by have := hc.1; omega)) [(1000001, 5), (59, 100)] rfl ⟨SV.le_refl _, trivial⟩ ⟨Res.le_refl _, trivial⟩ rfl rfl ?_
  rintro x rout ⟨e, he, d, hd, rfl, rfl⟩
  have hsh : allK mkG m.toNat e := ⟨by have := hc.1; have := he.1; omega, fun p hp => q1.2 p (hc.2 p (he.2 p hp))⟩
  have hl2 := hsh.1
  rcases hd with rfl | rfl
  · refine ⟨rfl, ?_⟩
    conv => whnf
    repeat' (first
      | (refine CallX.of (s84 n L hL _ ?_ ?_ _ ?_) [(1000000, 1000000)] rfl ⟨SV.le_refl _, SV.le_refl _, trivial⟩ ⟨Res.le_refl _, trivial⟩ rfl rfl ?_; rotate_right; rintro x rout ⟨⟨f, rfl⟩, ⟨c, c1, c2, rfl⟩⟩; refine ⟨rfl, ?_⟩; conv => whnf)
      | (refine CallX.of (s86 n L hL _ ?_ ?_ _ ?_) [(1000000, 1000000)] rfl ⟨SV.le_refl _, SV.le_refl _, trivial⟩ ⟨Res.le_refl _, trivial⟩ rfl rfl ?_; rotate_right; rintro x rout ⟨⟨j, hj1, hj2, hj3, rfl⟩, ⟨c, c1, c2, rfl⟩⟩; refine ⟨rfl, ?_⟩; conv => whnf)
      | (refine CallX.of (s15 n L hL _ ?_ ?_ [[], [110, 111, 110, 101], [65]] ?_ ?_) [(1000000, 1000000)] rfl ⟨SV.le_refl _, SV.le_lit rfl rfl, trivial⟩ ⟨Res.le_refl _, trivial⟩ rfl rfl ?_; rotate_right; rintro x rout ⟨⟨u4, hu4, rfl⟩, ⟨c, c1, c2, rfl⟩⟩; have hw4 := mem_len hu4 rfl; refine ⟨rfl, ?_⟩; conv => whnf)
      | (refine CallX.of (s104 n L hL _ ?_ ?_ 1 4 ?_ ?_ ?_) [(1000000, 1000000)] rfl ⟨SV.le_refl _, SV.le_refl _, SV.le_refl _, trivial⟩ ⟨Res.le_refl _, trivial⟩ rfl rfl ?_; rotate_right; rintro x rout ⟨⟨u5, hk1, hk2, rfl⟩, ⟨c, c1, c2, rfl⟩⟩; refine ⟨rfl, ?_⟩; conv => whnf)
      | (refine CallX.of (s104 n L hL _ ?_ ?_ 0 5000 ?_ ?_ ?_) [(1000000, 1000000)] rfl ⟨SV.le_refl _, SV.le_refl _, SV.le_refl _, trivial⟩ ⟨Res.le_refl _, trivial⟩ rfl rfl ?_; rotate_right; rintro x rout ⟨⟨u6, hk3, hk4, rfl⟩, ⟨c, c1, c2, rfl⟩⟩; refine ⟨rfl, ?_⟩; conv => whnf)
      | (refine CallX.of (s33 n L hL _ ?_ ?_ [0, 799, 800, 900] ?_ ?_) [(1000000, 1000000)] rfl ⟨SV.le_refl _, SV.le_lit rfl rfl, trivial⟩ ⟨Res.le_refl _, trivial⟩ rfl rfl ?_; rotate_right; rintro x rout ⟨⟨u7, hu7, rfl⟩, ⟨c, c1, c2, rfl⟩⟩; refine ⟨rfl, ?_⟩; conv => whnf)
      | (refine CallX.of (s104 n L hL _ ?_ ?_ 1 2000 ?_ ?_ ?_) [(1000000, 1000000)] rfl ⟨SV.le_refl _, SV.le_refl _, SV.le_refl _, trivial⟩ ⟨Res.le_refl _, trivial⟩ rfl rfl ?_; rotate_right; rintro x rout ⟨⟨u8, hk5, hk6, rfl⟩, ⟨c, c1, c2, rfl⟩⟩; refine ⟨rfl, ?_⟩; conv => whnf)
      | (refine br_intro (fun hb => ?_) (fun hb => ?_) <;> (try simp only [decide_eq_true_eq, decide_eq_false_iff_not, Bool.not_eq_true', Bool.not_eq_false', Bool.and_eq_true, Bool.or_eq_true, beq_iff_eq, not_and, Int.not_le, Int.not_lt, Int.toNat_natCast, beq_eq_false_iff_ne, ne_eq, eq_self, not_true_eq_false, not_false_eq_true] at hb) <;> (conv => whnf))
      | omega
      | (refine And.intro ?_ ?_; ((try dsimp only); first | omega | (refine ⟨by omega, by omega, Int.le_trans (Int.mul_le_mul_of_nonneg_right (Int.ofNat_le.2 (Nat.le_of_ble_eq_true (rfl : Nat.ble _ 1024 = true))) (by omega)) (by omega), by omega⟩) | (refine Nat.le_trans (Nat.mul_le_mul_left _ (Nat.le_of_ble_eq_true (rfl : Nat.ble _ 1024 = true))) ?_; omega) | (unfold inI64; omega) | (constructor <;> omega) | (simp only [inI64, List.length_cons, List.length_append, List.length_nil, List.length_set] at *; omega) | decide | (unfold inI64; decide)); conv => whnf)
      | omega | decide | assumption)
    · first
        | refine .freeze _ 5 133 5 _ _ rfl (.weak _ ?_)
        | refine .freeze _ 100 133 5 _ _ rfl (.weak _ ?_)
      (conv => whnf)
      refine ⟨_, [(1000000, strm n L _)], SV.le_upd (fun p : Mrk => (⟨u4, p.kind, p.x, p.y, p.size⟩ : Mrk)) (fun _ => rfl), ⟨⟨_, ?_, rfl⟩, _, by omega, by omega, rfl⟩, Res.le_refl _, trivial⟩
      exact allK_upd (g := fun p : Mrk => (⟨u4, p.kind, p.x, p.y, p.size⟩ : Mrk)) hsh (fun y hy => ⟨hw4, hy.2⟩)
    · first
        | refine .freeze _ 5 133 5 _ _ rfl (.weak _ ?_)
        | refine .freeze _ 100 133 5 _ _ rfl (.weak _ ?_)
      (conv => whnf)
      refine ⟨_, [(1000000, strm n L _)], SV.le_upd (fun p : Mrk => (⟨p.pan, u5, p.x, p.y, p.size⟩ : Mrk)) (fun _ => rfl), ⟨⟨_, ?_, rfl⟩, _, by omega, by omega, rfl⟩, Res.le_refl _, trivial⟩
      exact allK_upd (g := fun p : Mrk => (⟨p.pan, u5, p.x, p.y, p.size⟩ : Mrk)) hsh (fun y hy => hy)
    · first
        | refine .freeze _ 5 133 5 _ _ rfl (.weak _ ?_)
        | refine .freeze _ 100 133 5 _ _ rfl (.weak _ ?_)
      (conv => whnf)
      refine ⟨_, [(1000000, strm n L _)], SV.le_upd2 (f := mkF) (d := mk0) (l := e) (fun p : Mrk => (⟨p.pan, p.kind, u6, p.y, p.size⟩ : Mrk)) (fun p : Mrk => (⟨p.pan, p.kind, p.x, u7, p.size⟩ : Mrk)) (fun _ => rfl) (fun _ => rfl), ⟨⟨_, ?_, rfl⟩, _, by omega, by omega, rfl⟩, Res.le_refl _, trivial⟩
      exact allK_upd (g := fun p : Mrk => (⟨p.pan, p.kind, p.x, u7, p.size⟩ : Mrk)) (allK_upd (g := fun p : Mrk => (⟨p.pan, p.kind, u6, p.y, p.size⟩ : Mrk)) hsh (fun y hy => ⟨hy.1, (show -1099511627776 ≤ u6 ∧ u6 ≤ 1099511627776 from by omega), hy.2.2⟩)) (fun y hy => ⟨hy.1, hy.2.1, pk hu7 rfl, hy.2.2.2⟩)
    · first
        | refine .freeze _ 5 133 5 _ _ rfl (.weak _ ?_)
        | refine .freeze _ 100 133 5 _ _ rfl (.weak _ ?_)
      (conv => whnf)
      refine ⟨_, [(1000000, strm n L _)], SV.le_upd (fun p : Mrk => (⟨p.pan, p.kind, p.x, p.y, u8⟩ : Mrk)) (fun _ => rfl), ⟨⟨_, ?_, rfl⟩, _, by omega, by omega, rfl⟩, Res.le_refl _, trivial⟩
      exact allK_upd (g := fun p : Mrk => (⟨p.pan, p.kind, p.x, p.y, u8⟩ : Mrk)) hsh (fun y hy => ⟨hy.1, hy.2.1, hy.2.2.1, (show -1099511627776 ≤ u8 ∧ u8 ≤ 1099511627776 from by omega)⟩)
    all_goals
      first
        | refine .freeze _ 5 133 5 _ _ rfl (.weak _ ?_)
        | refine .freeze _ 100 133 5 _ _ rfl (.weak _ ?_)
      (conv => whnf)
      exact ⟨_, [(1000000, strm n L _)], SV.le_refl _, ⟨⟨e, hsh, rfl⟩, _, by omega, by omega, rfl⟩, Res.le_refl _, trivial⟩
  · refine ⟨rfl, ?_⟩
    conv => whnf
    repeat' (first
      | (refine CallX.of (s84 n L hL _ ?_ ?_ _ ?_) [(1000000, 1000000)] rfl ⟨SV.le_refl _, SV.le_refl _, trivial⟩ ⟨Res.le_refl _, trivial⟩ rfl rfl ?_; rotate_right; rintro x rout ⟨⟨f, rfl⟩, ⟨c, c1, c2, rfl⟩⟩; refine ⟨rfl, ?_⟩; conv => whnf)
      | (refine CallX.of (s86 n L hL _ ?_ ?_ _ ?_) [(1000000, 1000000)] rfl ⟨SV.le_refl _, SV.le_refl _, trivial⟩ ⟨Res.le_refl _, trivial⟩ rfl rfl ?_; rotate_right; rintro x rout ⟨⟨j, hj1, hj2, hj3, rfl⟩, ⟨c, c1, c2, rfl⟩⟩; refine ⟨rfl, ?_⟩; conv => whnf)
      | (refine CallX.of (s15 n L hL _ ?_ ?_ [[], [110, 111, 110, 101], [65]] ?_ ?_) [(1000000, 1000000)] rfl ⟨SV.le_refl _, SV.le_lit rfl rfl, trivial⟩ ⟨Res.le_refl _, trivial⟩ rfl rfl ?_; rotate_right; rintro x rout ⟨⟨u4, hu4, rfl⟩, ⟨c, c1, c2, rfl⟩⟩; have hw4 := mem_len hu4 rfl; refine ⟨rfl, ?_⟩; conv => whnf)
      | (refine CallX.of (s104 n L hL _ ?_ ?_ 1 4 ?_ ?_ ?_) [(1000000, 1000000)] rfl ⟨SV.le_refl _, SV.le_refl _, SV.le_refl _, trivial⟩ ⟨Res.le_refl _, trivial⟩ rfl rfl ?_; rotate_right; rintro x rout ⟨⟨u5, hk1, hk2, rfl⟩, ⟨c, c1, c2, rfl⟩⟩; refine ⟨rfl, ?_⟩; conv => whnf)
      | (refine CallX.of (s104 n L hL _ ?_ ?_ 0 5000 ?_ ?_ ?_) [(1000000, 1000000)] rfl ⟨SV.le_refl _, SV.le_refl _, SV.le_refl _, trivial⟩ ⟨Res.le_refl _, trivial⟩ rfl rfl ?_; rotate_right; rintro x rout ⟨⟨u6, hk3, hk4, rfl⟩, ⟨c, c1, c2, rfl⟩⟩; refine ⟨rfl, ?_⟩; conv => whnf)
      | (refine CallX.of (s33 n L hL _ ?_ ?_ [0, 799, 800, 900] ?_ ?_) [(1000000, 1000000)] rfl ⟨SV.le_refl _, SV.le_lit rfl rfl, trivial⟩ ⟨Res.le_refl _, trivial⟩ rfl rfl ?_; rotate_right; rintro x rout ⟨⟨u7, hu7, rfl⟩, ⟨c, c1, c2, rfl⟩⟩; refine ⟨rfl, ?_⟩; conv => whnf)
      | (refine CallX.of (s104 n L hL _ ?_ ?_ 1 2000 ?_ ?_ ?_) [(1000000, 1000000)] rfl ⟨SV.le_refl _, SV.le_refl _, SV.le_refl _, trivial⟩ ⟨Res.le_refl _, trivial⟩ rfl rfl ?_; rotate_right; rintro x rout ⟨⟨u8, hk5, hk6, rfl⟩, ⟨c, c1, c2, rfl⟩⟩; refine ⟨rfl, ?_⟩; conv => whnf)
      | (refine br_intro (fun hb => ?_) (fun hb => ?_) <;> (try simp only [decide_eq_true_eq, decide_eq_false_iff_not, Bool.not_eq_true', Bool.not_eq_false', Bool.and_eq_true, Bool.or_eq_true, beq_iff_eq, not_and, Int.not_le, Int.not_lt, Int.toNat_natCast, beq_eq_false_iff_ne, ne_eq, eq_self, not_true_eq_false, not_false_eq_true] at hb) <;> (conv => whnf))
      | omega
      | (refine And.intro ?_ ?_; ((try dsimp only); first | omega | (refine ⟨by omega, by omega, Int.le_trans (Int.mul_le_mul_of_nonneg_right (Int.ofNat_le.2 (Nat.le_of_ble_eq_true (rfl : Nat.ble _ 1024 = true))) (by omega)) (by omega), by omega⟩) | (refine Nat.le_trans (Nat.mul_le_mul_left _ (Nat.le_of_ble_eq_true (rfl : Nat.ble _ 1024 = true))) ?_; omega) | (unfold inI64; omega) | (constructor <;> omega) | (simp only [inI64, List.length_cons, List.length_append, List.length_nil, List.length_set] at *; omega) | decide | (unfold inI64; decide)); conv => whnf)
      | omega | decide | assumption)
    · first
        | refine .freeze _ 5 133 5 _ _ rfl (.weak _ ?_)
        | refine .freeze _ 100 133 5 _ _ rfl (.weak _ ?_)
      (conv => whnf)
      refine ⟨_, [(1000000, strm n L _)], SV.le_upd (fun p : Mrk => (⟨u4, p.kind, p.x, p.y, p.size⟩ : Mrk)) (fun _ => rfl), ⟨⟨_, ?_, rfl⟩, _, by omega, by omega, rfl⟩, Res.le_refl _, trivial⟩
      exact allK_upd (g := fun p : Mrk => (⟨u4, p.kind, p.x, p.y, p.size⟩ : Mrk)) hsh (fun y hy => ⟨hw4, hy.2⟩)
    · first
        | refine .freeze _ 5 133 5 _ _ rfl (.weak _ ?_)
        | refine .freeze _ 100 133 5 _ _ rfl (.weak _ ?_)
      (conv => whnf)
      refine ⟨_, [(1000000, strm n L _)], SV.le_upd (fun p : Mrk => (⟨p.pan, u5, p.x, p.y, p.size⟩ : Mrk)) (fun _ => rfl), ⟨⟨_, ?_, rfl⟩, _, by omega, by omega, rfl⟩, Res.le_refl _, trivial⟩
      exact allK_upd (g := fun p : Mrk => (⟨p.pan, u5, p.x, p.y, p.size⟩ : Mrk)) hsh (fun y hy => hy)
    · first
        | refine .freeze _ 5 133 5 _ _ rfl (.weak _ ?_)
        | refine .freeze _ 100 133 5 _ _ rfl (.weak _ ?_)
      (conv => whnf)
      refine ⟨_, [(1000000, strm n L _)], SV.le_upd2 (f := mkF) (d := mk0) (l := e) (fun p : Mrk => (⟨p.pan, p.kind, u6, p.y, p.size⟩ : Mrk)) (fun p : Mrk => (⟨p.pan, p.kind, p.x, u7, p.size⟩ : Mrk)) (fun _ => rfl) (fun _ => rfl), ⟨⟨_, ?_, rfl⟩, _, by omega, by omega, rfl⟩, Res.le_refl _, trivial⟩
      exact allK_upd (g := fun p : Mrk => (⟨p.pan, p.kind, p.x, u7, p.size⟩ : Mrk)) (allK_upd (g := fun p : Mrk => (⟨p.pan, p.kind, u6, p.y, p.size⟩ : Mrk)) hsh (fun y hy => ⟨hy.1, (show -1099511627776 ≤ u6 ∧ u6 ≤ 1099511627776 from by omega), hy.2.2⟩)) (fun y hy => ⟨hy.1, hy.2.1, pk hu7 rfl, hy.2.2.2⟩)
    · first
        | refine .freeze _ 5 133 5 _ _ rfl (.weak _ ?_)
        | refine .freeze _ 100 133 5 _ _ rfl (.weak _ ?_)
      (conv => whnf)
      refine ⟨_, [(1000000, strm n L _)], SV.le_upd (fun p : Mrk => (⟨p.pan, p.kind, p.x, p.y, u8⟩ : Mrk)) (fun _ => rfl), ⟨⟨_, ?_, rfl⟩, _, by omega, by omega, rfl⟩, Res.le_refl _, trivial⟩
      exact allK_upd (g := fun p : Mrk => (⟨p.pan, p.kind, p.x, p.y, u8⟩ : Mrk)) hsh (fun y hy => ⟨hy.1, hy.2.1, hy.2.2.1, (show -1099511627776 ≤ u8 ∧ u8 ≤ 1099511627776 from by omega)⟩)
    all_goals
      first
        | refine .freeze _ 5 133 5 _ _ rfl (.weak _ ?_)
        | refine .freeze _ 100 133 5 _ _ rfl (.weak _ ?_)
      (conv => whnf)
      exact ⟨_, [(1000000, strm n L _)], SV.le_refl _, ⟨⟨e, hsh, rfl⟩, _, by omega, by omega, rfl⟩, Res.le_refl _, trivial⟩
end Go.Proofs.YtnkdlkgannnfhaaGreatDoor
set_option maxRecDepth 20000
namespace Go.Proofs.YtnkdlkgannnfhaaGreatDoor
open Go Go.Eng
theorem pkc {l : List Int} {x : Int} (h : x ∈ l) (hl : (l.all fun y => decide (-16 ≤ y) && decide (y ≤ 16)) = true) : -16 ≤ x ∧ x ≤ 16 := by
  have := List.all_eq_true.1 hl x h
  simpa using this
theorem pkz {x : Int} (h : x ∈ [(0 : Int), 0, 1, 2]) : 0 ≤ x ∧ x ≤ 2 := by
  simp at h; omega
theorem mkB_mono {c d : Int} {m : Mrk} (h : mkB c m) (hc : c ≤ d) : mkB d m := by
  unfold mkB at *; omega
-- Seen
set_option maxHeartbeats 2000000 in
theorem z141 (n : Nat) (L : Nat → Int) (hL : Rok n L) (a : Int) (h0 : 0 ≤ a) (ha : a ≤ 2^37) (l : List Mrk) (k : Nat) (hk : k ≤ 10) (cc : Int) (hc0 : 0 ≤ cc) (hc : cc ≤ 2^41) (hl : allK (mkB cc) k l) :
    FSpec Tryz.prog 141 [.ptr 1000000 0, .d (mrks l)] [(1000000, strm n L a)] (fun y r => (∃ l', allK (mkB (max (cc + 16) 1099511627776)) (k + 2) l' ∧ y = .d (mrks l')) ∧ Moved n L a 200 r) := by
  have hl1 := hl.1
  refine spec_of hT (C := []) Tryz.func141 rfl Tryz.call141 rfl rfl rfl ?_
  conv => whnf
  refine LoopX.rule hT (C := []) (ι := Int × List Mrk × Nat) (fun (b, o, i) => (a ≤ b ∧ b ≤ a + 4 * i ∧ i ≤ l.length) ∧ allK (mkB (cc + 16)) i o)
    (fun (b, o, i) => mkSt [(0, .ptr 1000000 0), (5, .buf 5), (8, .d (mrks l)), (9, .d (.int .i64 l.length)), (10, .d (.int .i64 i))] [(1000000, strm n L b), (5, seqB 133 5 mkF mk0 o)])
    (fun (_, _, i) => l.length - i) (a, [], 0) ⟨⟨by simp, by simp, by simp⟩, ⟨by simp, by simp⟩⟩ ?_ ?_
  · exact (Entails.nil 5 5 133 5 (rowF mkF mk0 []) rfl rfl (by decide)).trans (by refine Entails.mk' [(1000000, 1000000), (5, 5)] rfl rfl ?_ ?_ <;> repeat' (first | exact True.intro | exact SV.le_refl _ | exact Res.le_refl _ | exact SV.le_int (by omega) | exact SV.le_any _ | refine And.intro ?_ ?_))
  rintro ⟨b, o, i⟩ ⟨⟨p1, p2, p3⟩, q1⟩
  have p3 : i ≤ l.length := p3
  have ho1 := q1.1
  have e1 : (i : Int).toNat = i := Int.toNat_natCast i
  have hx := fun (h : (i : Int) < l.length) => hl.2 (l.getD (i : Int).toNat mk0) (getD_mem (by omega))
  unfold mkB at hx
  conv => whnf
  repeat' (first
    | (refine CallX.of (s84 n L hL _ ?_ ?_ _ ?_) [(1000000, 1000000)] rfl ⟨SV.le_refl _, SV.le_refl _, trivial⟩ ⟨Res.le_refl _, trivial⟩ rfl rfl ?_; rotate_right; rintro x rout ⟨⟨f, rfl⟩, ⟨c, c1, c2, rfl⟩⟩; refine ⟨rfl, ?_⟩; conv => whnf)
    | (refine CallX.of (s33 n L hL _ ?_ ?_ [0, 0, 3, -3, 10, 12] ?_ ?_) [(1000000, 1000000)] rfl ⟨SV.le_refl _, SV.le_lit rfl rfl, trivial⟩ ⟨Res.le_refl _, trivial⟩ rfl rfl ?_; rotate_right; rintro x rout ⟨⟨u1, hu1, rfl⟩, ⟨c, c1, c2, rfl⟩⟩; have hw1 := pkc hu1 rfl; refine ⟨rfl, ?_⟩; conv => whnf)
    | (refine CallX.of (s33 n L hL _ ?_ ?_ [0, 0, 4, 5, 16] ?_ ?_) [(1000000, 1000000)] rfl ⟨SV.le_refl _, SV.le_lit rfl rfl, trivial⟩ ⟨Res.le_refl _, trivial⟩ rfl rfl ?_; rotate_right; rintro x rout ⟨⟨u2, hu2, rfl⟩, ⟨c, c1, c2, rfl⟩⟩; have hw2 := pkc hu2 rfl; refine ⟨rfl, ?_⟩; conv => whnf)
    | (refine CallX.of (s33 n L hL _ ?_ ?_ [0, 0, 1, 3, -1, -3] ?_ ?_) [(1000000, 1000000)] rfl ⟨SV.le_refl _, SV.le_lit rfl rfl, trivial⟩ ⟨Res.le_refl _, trivial⟩ rfl rfl ?_; rotate_right; rintro x rout ⟨⟨u3, hu3, rfl⟩, ⟨c, c1, c2, rfl⟩⟩; have hw3 := pkc hu3 rfl; refine ⟨rfl, ?_⟩; conv => whnf)
    | (refine CallX.of (s33 n L hL _ ?_ ?_ [0, 0, 1, 2] ?_ ?_) [(1000000, 1000000)] rfl ⟨SV.le_refl _, SV.le_lit rfl rfl, trivial⟩ ⟨Res.le_refl _, trivial⟩ rfl rfl ?_; rotate_right; rintro x rout ⟨⟨u4, hu4, rfl⟩, ⟨c, c1, c2, rfl⟩⟩; have hw4 := pkz hu4; refine ⟨rfl, ?_⟩; conv => whnf)
    | (refine CallX.of (s96 n L hL _ ?_ ?_ u4 ?_ ?_) [(1000000, 1000000)] rfl ⟨SV.le_refl _, SV.le_refl _, trivial⟩ ⟨Res.le_refl _, trivial⟩ rfl rfl ?_; rotate_right; rintro x rout ⟨⟨l2, q2, rfl⟩, ⟨c, c1, c2, rfl⟩⟩; have hq2 := q2.1; refine ⟨rfl, ?_⟩; conv => whnf)
    | (refine And.intro (by have := hx (by omega); unfold inI64; omega) ?_; conv => whnf)
    | (refine br_intro (fun hb => ?_) (fun hb => ?_) <;> (try simp only [decide_eq_true_eq, decide_eq_false_iff_not, Bool.not_eq_true', Bool.not_eq_false', Bool.and_eq_true, Bool.or_eq_true, beq_iff_eq, not_and, Int.not_le, Int.not_lt, Int.toNat_natCast, beq_eq_false_iff_ne, ne_eq, eq_self, not_true_eq_false, not_false_eq_true] at hb) <;> (conv => whnf))
    | (refine RegX.rule (id := 6) hT rfl [] [(0, []), (1, []), (2, [0, 1]), (3, [0, 1, 2]), (7, [0, 1, 2, 3]), (8, [0, 1, 2, 3]), (9, [0, 1, 2, 3, 7, 8]), (10, [0, 1, 2, 3, 7, 8, 9]), (14, [0, 1, 2, 3, 7, 8, 9, 10]), (15, [0, 1, 2, 3, 7, 8, 9, 10]), (16, [0, 1, 2, 3, 7, 8, 9, 10, 14, 15]), (17, [0, 1, 2, 3, 7, 8, 9, 10, 14, 15, 16]), (4, [0, 1, 7, 8, 9, 10, 14, 15, 16, 17]), (5, [7, 8, 9, 10, 14, 15, 16, 17]), (6, [7, 8, 9, 10, 14, 15, 16, 17]), (21, [9, 10, 16, 17]), (11, [0, 1, 7, 8, 14, 15, 16, 17, 5, 6, 21]), (12, [0, 1, 14, 15, 16, 17, 5, 6, 21]), (13, [0, 1, 14, 15, 16, 17, 5, 6, 21]), (18, [0, 1, 7, 8, 14, 15, 5, 6, 21, 12, 13]), (19, [0, 1, 7, 8, 5, 6, 21, 12, 13]), (20, [0, 1, 7, 8, 5, 6, 21, 12, 13]), (22, [12, 13, 19, 20]), (23, [19, 20]), (24, [19, 20]), (25, []), (26, [])] (by decide +kernel) ?_; conv => whnf)
    | omega
    | (refine And.intro ?_ ?_; ((try dsimp only); first | omega | (refine ⟨by omega, by omega, Int.le_trans (Int.mul_le_mul_of_nonneg_right (Int.ofNat_le.2 (Nat.le_of_ble_eq_true (rfl : Nat.ble _ 1024 = true))) (by omega)) (by omega), by omega⟩) | (refine Nat.le_trans (Nat.mul_le_mul_left _ (Nat.le_of_ble_eq_true (rfl : Nat.ble _ 1024 = true))) ?_; omega) | (unfold inI64; omega) | (constructor <;> omega) | (simp only [inI64, List.length_cons, List.length_append, List.length_nil, List.length_set] at *; omega) | decide | (unfold inI64; decide)); conv => whnf)
    | omega | decide | assumption)
  · refine ⟨(_, o, i + 1), ⟨⟨by omega, by omega, by omega⟩, allK_le q1 (by omega)⟩, by show l.length - (i + 1) < l.length - i; omega, Entails.mk' [(1000000, 1000000), (5, 5)] rfl rfl ⟨SV.le_refl _, SV.le_refl _, SV.le_refl _, SV.le_refl _, SV.le_refl _, trivial⟩ ⟨Res.le_refl _, Res.le_refl _, trivial⟩⟩
  · have hx := hx (by omega)
    refine ⟨(_, o ++ [⟨(l.getD (i : Int).toNat mk0).pan, (l.getD (i : Int).toNat mk0).kind, max 0 ((l.getD (i : Int).toNat mk0).x + u1), max 0 ((l.getD (i : Int).toNat mk0).y + u2), max 1 ((l.getD (i : Int).toNat mk0).size + u3)⟩], i + 1), ⟨⟨by omega, by omega, by omega⟩, allK_snoc q1 (Nat.le_refl _) ⟨hx.1, ?_, ?_, ?_⟩⟩, by show l.length - (i + 1) < l.length - i; omega, Entails.mk' [(1000000, 1000000), (5, 43)] rfl rfl ⟨SV.le_refl _, SV.le_refl _, SV.le_refl _, SV.le_refl _, SV.le_refl _, trivial⟩ ⟨Res.le_refl _, Res.le_snocF rfl, trivial⟩⟩
    · show -(cc + 16) ≤ max 0 ((l.getD (i : Int).toNat mk0).x + u1) ∧ max 0 ((l.getD (i : Int).toNat mk0).x + u1) ≤ cc + 16; omega
    · show -(cc + 16) ≤ max 0 ((l.getD (i : Int).toNat mk0).y + u2) ∧ max 0 ((l.getD (i : Int).toNat mk0).y + u2) ≤ cc + 16; omega
    · show -(cc + 16) ≤ max 1 ((l.getD (i : Int).toNat mk0).size + u3) ∧ max 1 ((l.getD (i : Int).toNat mk0).size + u3) ≤ cc + 16; omega
  have hall : allK (mkB (max (cc + 16) 1099511627776)) (k + 2) (o ++ l2) := by
    refine ⟨by rw [List.length_append]; omega, fun x hx => ?_⟩
    rcases List.mem_append.1 hx with q | q
    · exact mkB_mono (q1.2 x q) (by omega)
    · exact mkB_mono (q2.2 x q) (by omega)
  obtain ⟨w, hw⟩ : ∃ w, w = o ++ l2 := ⟨_, rfl⟩
  have hwl : w.length ≤ k + 2 := by rw [hw]; exact hall.1
  rw [← hw] at hall
  refine CallX.of (s156 198 mrkCmp w (by omega) (fun p q _ _ => s157 p q)) [(1000001, 51)] rfl ⟨SV.le_refl _, SV.le_refl _, trivial⟩ ⟨by rw [hw]; exact Res.le_appF, trivial⟩ rfl rfl ?_
  rintro x rout ⟨rfl, d, hd, rfl⟩
  refine ⟨rfl, ?_⟩
  conv => whnf
  repeat' (first
    | (refine br_intro (fun hb => ?_) (fun hb => ?_) <;> (try simp only [decide_eq_true_eq, decide_eq_false_iff_not, Bool.not_eq_true', Bool.not_eq_false', Bool.and_eq_true, Bool.or_eq_true, beq_iff_eq, not_and, Int.not_le, Int.not_lt, Int.toNat_natCast, beq_eq_false_iff_ne, ne_eq, eq_self, not_true_eq_false, not_false_eq_true] at hb) <;> (conv => whnf))
    | (refine RegX.rule (id := 6) hT rfl [] [(0, []), (1, []), (2, [0, 1]), (3, [0, 1, 2]), (7, [0, 1, 2, 3]), (8, [0, 1, 2, 3]), (9, [0, 1, 2, 3, 7, 8]), (10, [0, 1, 2, 3, 7, 8, 9]), (14, [0, 1, 2, 3, 7, 8, 9, 10]), (15, [0, 1, 2, 3, 7, 8, 9, 10]), (16, [0, 1, 2, 3, 7, 8, 9, 10, 14, 15]), (17, [0, 1, 2, 3, 7, 8, 9, 10, 14, 15, 16]), (4, [0, 1, 7, 8, 9, 10, 14, 15, 16, 17]), (5, [7, 8, 9, 10, 14, 15, 16, 17]), (6, [7, 8, 9, 10, 14, 15, 16, 17]), (21, [9, 10, 16, 17]), (11, [0, 1, 7, 8, 14, 15, 16, 17, 5, 6, 21]), (12, [0, 1, 14, 15, 16, 17, 5, 6, 21]), (13, [0, 1, 14, 15, 16, 17, 5, 6, 21]), (18, [0, 1, 7, 8, 14, 15, 5, 6, 21, 12, 13]), (19, [0, 1, 7, 8, 5, 6, 21, 12, 13]), (20, [0, 1, 7, 8, 5, 6, 21, 12, 13]), (22, [12, 13, 19, 20]), (23, [19, 20]), (24, [19, 20]), (25, []), (26, [])] (by decide +kernel) ?_; conv => whnf)
    | omega
    | (refine And.intro ?_ ?_; ((try dsimp only); first | omega | (refine ⟨by omega, by omega, Int.le_trans (Int.mul_le_mul_of_nonneg_right (Int.ofNat_le.2 (Nat.le_of_ble_eq_true (rfl : Nat.ble _ 1024 = true))) (by omega)) (by omega), by omega⟩) | (refine Nat.le_trans (Nat.mul_le_mul_left _ (Nat.le_of_ble_eq_true (rfl : Nat.ble _ 1024 = true))) ?_; omega) | (unfold inI64; omega) | (constructor <;> omega) | (simp only [inI64, List.length_cons, List.length_append, List.length_nil, List.length_set] at *; omega) | decide | (unfold inI64; decide)); conv => whnf)
    | omega | decide | assumption)
  refine CallX.of (s158 d (by have := hd.1; omega)) [(1000001, 51), (59, 100)] rfl ⟨SV.le_refl _, trivial⟩ ⟨Res.le_refl _, trivial⟩ rfl rfl ?_
  rintro x rout ⟨e, he, nm, hnm, rfl, rfl⟩
  have hsh : allK (mkB (max (cc + 16) 1099511627776)) (k + 2) e := ⟨by have := hd.1; have := he.1; omega, fun p hp => hall.2 p (hd.2 p (he.2 p hp))⟩
  rcases hnm with rfl | rfl
  · refine ⟨rfl, ?_⟩
    conv => whnf
    repeat' (first
      | (refine br_intro (fun hb => ?_) (fun hb => ?_) <;> (try simp only [decide_eq_true_eq, decide_eq_false_iff_not, Bool.not_eq_true', Bool.not_eq_false', Bool.and_eq_true, Bool.or_eq_true, beq_iff_eq, not_and, Int.not_le, Int.not_lt, Int.toNat_natCast, beq_eq_false_iff_ne, ne_eq, eq_self, not_true_eq_false, not_false_eq_true] at hb) <;> (conv => whnf))
      | (refine RegX.rule (id := 6) hT rfl [] [(0, []), (1, []), (2, [0, 1]), (3, [0, 1, 2]), (7, [0, 1, 2, 3]), (8, [0, 1, 2, 3]), (9, [0, 1, 2, 3, 7, 8]), (10, [0, 1, 2, 3, 7, 8, 9]), (14, [0, 1, 2, 3, 7, 8, 9, 10]), (15, [0, 1, 2, 3, 7, 8, 9, 10]), (16, [0, 1, 2, 3, 7, 8, 9, 10, 14, 15]), (17, [0, 1, 2, 3, 7, 8, 9, 10, 14, 15, 16]), (4, [0, 1, 7, 8, 9, 10, 14, 15, 16, 17]), (5, [7, 8, 9, 10, 14, 15, 16, 17]), (6, [7, 8, 9, 10, 14, 15, 16, 17]), (21, [9, 10, 16, 17]), (11, [0, 1, 7, 8, 14, 15, 16, 17, 5, 6, 21]), (12, [0, 1, 14, 15, 16, 17, 5, 6, 21]), (13, [0, 1, 14, 15, 16, 17, 5, 6, 21]), (18, [0, 1, 7, 8, 14, 15, 5, 6, 21, 12, 13]), (19, [0, 1, 7, 8, 5, 6, 21, 12, 13]), (20, [0, 1, 7, 8, 5, 6, 21, 12, 13]), (22, [12, 13, 19, 20]), (23, [19, 20]), (24, [19, 20]), (25, []), (26, [])] (by decide +kernel) ?_; conv => whnf)
      | omega
      | (refine And.intro ?_ ?_; ((try dsimp only); first | omega | (refine ⟨by omega, by omega, Int.le_trans (Int.mul_le_mul_of_nonneg_right (Int.ofNat_le.2 (Nat.le_of_ble_eq_true (rfl : Nat.ble _ 1024 = true))) (by omega)) (by omega), by omega⟩) | (refine Nat.le_trans (Nat.mul_le_mul_left _ (Nat.le_of_ble_eq_true (rfl : Nat.ble _ 1024 = true))) ?_; omega) | (unfold inI64; omega) | (constructor <;> omega) | (simp only [inI64, List.length_cons, List.length_append, List.length_nil, List.length_set] at *; omega) | decide | (unfold inI64; decide)); conv => whnf)
      | omega | decide | assumption)
    all_goals
      first
        | refine .freeze _ 51 133 5 _ _ rfl (.weak _ ?_)
        | refine .freeze _ 100 133 5 _ _ rfl (.weak _ ?_)
      (conv => whnf)
      exact ⟨_, [(1000000, strm n L _)], SV.le_refl _, ⟨⟨e, hsh, rfl⟩, _, by omega, by omega, rfl⟩, Res.le_refl _, trivial⟩
  · refine ⟨rfl, ?_⟩
    conv => whnf
    repeat' (first
      | (refine br_intro (fun hb => ?_) (fun hb => ?_) <;> (try simp only [decide_eq_true_eq, decide_eq_false_iff_not, Bool.not_eq_true', Bool.not_eq_false', Bool.and_eq_true, Bool.or_eq_true, beq_iff_eq, not_and, Int.not_le, Int.not_lt, Int.toNat_natCast, beq_eq_false_iff_ne, ne_eq, eq_self, not_true_eq_false, not_false_eq_true] at hb) <;> (conv => whnf))
      | (refine RegX.rule (id := 6) hT rfl [] [(0, []), (1, []), (2, [0, 1]), (3, [0, 1, 2]), (7, [0, 1, 2, 3]), (8, [0, 1, 2, 3]), (9, [0, 1, 2, 3, 7, 8]), (10, [0, 1, 2, 3, 7, 8, 9]), (14, [0, 1, 2, 3, 7, 8, 9, 10]), (15, [0, 1, 2, 3, 7, 8, 9, 10]), (16, [0, 1, 2, 3, 7, 8, 9, 10, 14, 15]), (17, [0, 1, 2, 3, 7, 8, 9, 10, 14, 15, 16]), (4, [0, 1, 7, 8, 9, 10, 14, 15, 16, 17]), (5, [7, 8, 9, 10, 14, 15, 16, 17]), (6, [7, 8, 9, 10, 14, 15, 16, 17]), (21, [9, 10, 16, 17]), (11, [0, 1, 7, 8, 14, 15, 16, 17, 5, 6, 21]), (12, [0, 1, 14, 15, 16, 17, 5, 6, 21]), (13, [0, 1, 14, 15, 16, 17, 5, 6, 21]), (18, [0, 1, 7, 8, 14, 15, 5, 6, 21, 12, 13]), (19, [0, 1, 7, 8, 5, 6, 21, 12, 13]), (20, [0, 1, 7, 8, 5, 6, 21, 12, 13]), (22, [12, 13, 19, 20]), (23, [19, 20]), (24, [19, 20]), (25, []), (26, [])] (by decide +kernel) ?_; conv => whnf)
      | omega
      | (refine And.intro ?_ ?_; ((try dsimp only); first | omega | (refine ⟨by omega, by omega, Int.le_trans (Int.mul_le_mul_of_nonneg_right (Int.ofNat_le.2 (Nat.le_of_ble_eq_true (rfl : Nat.ble _ 1024 = true))) (by omega)) (by omega), by omega⟩) | (refine Nat.le_trans (Nat.mul_le_mul_left _ (Nat.le_of_ble_eq_true (rfl : Nat.ble _ 1024 = true))) ?_; omega) | (unfold inI64; omega) | (constructor <;> omega) | (simp only [inI64, List.length_cons, List.length_append, List.length_nil, List.length_set] at *; omega) | decide | (unfold inI64; decide)); conv => whnf)
      | omega | decide | assumption)
    all_goals
      first
        | refine .freeze _ 51 133 5 _ _ rfl (.weak _ ?_)
        | refine .freeze _ 100 133 5 _ _ rfl (.weak _ ?_)
      (conv => whnf)
      exact ⟨_, [(1000000, strm n L _)], SV.le_refl _, ⟨⟨e, hsh, rfl⟩, _, by omega, by omega, rfl⟩, Res.le_refl _, trivial⟩
end Go.Proofs.YtnkdlkgannnfhaaGreatDoor
set_option maxRecDepth 20000
namespace Go.Proofs.YtnkdlkgannnfhaaGreatDoor
open Go Go.Eng
def twoE (p : List Pnl) (r : Rul) (a b : List Mrk) : Int := firstE [rulE r, mrksPE p a, onPE p b]
theorem twoE_eq (p : List Pnl) (r : Rul) (a b : List Mrk) : firstE [rulE r, mrksPE p a, mrksPE p b] = twoE p r a b := by
  unfold twoE mrksPE
  simp only [firstE]
  grind
theorem twoE_zero {p : List Pnl} {r : Rul} {a b : List Mrk} (h : twoE p r a b = 0) : rulE r = 0 ∧ pansE p = 0 ∧ onPE p a = 0 ∧ onPE p b = 0 := by
  unfold twoE mrksPE at h
  simp only [firstE] at h
  grind
theorem rulE_bd {r : Rul} (h : rulE r = 0) : rBd r := by
  unfold rulE at h
  unfold rBd
  grind
theorem onPE_mBd {p : List Pnl} {l : List Mrk} (h : onPE p l = 0) : l.length ≤ 60 ∧ ∀ i, i < l.length → mBd (l.getD i mk0) := by
  obtain ⟨h1, h2⟩ := mrks_bd (onPE_bd h).1
  refine ⟨h1, fun i hi => ?_⟩
  have := h2 i hi
  unfold mBd
  omega
-- mark.checkTwo
theorem z145 (p : List Pnl) (r : Rul) (a b : List Mrk) (hp : pnOk p) (ha : mkOk a) (hb1 : mkOk b) : FSpec Tryz.prog 145 [.d (pnls p), .agg ((ruF r).map .d), .d (mrks a), .d (mrks b)] [] (fun x r' => x = .d (.int .i64 (twoE p r a b)) ∧ r' = []) := by
  refine spec_of hT (C := []) Tryz.func145 rfl Tryz.call145 rfl rfl rfl ?_
  conv => whnf
  repeat' (first
    | (refine CallX.exact (s102 r) rfl rfl ?_; rotate_right; conv => whnf)
    | (refine CallX.exact (s100 p a hp ha) rfl rfl ?_; rotate_right; conv => whnf)
    | (refine CallX.exact (s159 p b hp.1 hb1) rfl rfl ?_; rotate_right; conv => whnf)
    | (refine CallX.pure (s105 [_, _, _] (by simp)) ⟨SV.le_lit (by rfl) (by rfl), trivial⟩ rfl ?_; conv => whnf)
    | (refine br_intro (fun hb => ?_) (fun hb => ?_) <;> (try simp only [decide_eq_true_eq, decide_eq_false_iff_not, Bool.not_eq_true', Bool.not_eq_false', Bool.and_eq_true, Bool.or_eq_true, beq_iff_eq, not_and, Int.not_le, Int.not_lt, Int.toNat_natCast, beq_eq_false_iff_ne, ne_eq, eq_self, not_true_eq_false, not_false_eq_true] at hb) <;> (conv => whnf))
    | omega
    | (refine And.intro ?_ ?_; ((try dsimp only); first | omega | (refine ⟨by omega, by omega, Int.le_trans (Int.mul_le_mul_of_nonneg_right (Int.ofNat_le.2 (Nat.le_of_ble_eq_true (rfl : Nat.ble _ 1024 = true))) (by omega)) (by omega), by omega⟩) | (refine Nat.le_trans (Nat.mul_le_mul_left _ (Nat.le_of_ble_eq_true (rfl : Nat.ble _ 1024 = true))) ?_; omega) | (unfold inI64; omega) | (constructor <;> omega) | (simp only [inI64, List.length_cons, List.length_append, List.length_nil, List.length_set] at *; omega) | decide | (unfold inI64; decide)); conv => whnf)
    | omega | decide | assumption)
  refine .ret _ ?_
  conv => whnf
  refine ⟨[], ⟨?_, rfl⟩, trivial⟩
  conv => lhs; whnf
  rfl
theorem mkOk_of {c : Int} {k : Nat} {l : List Mrk} (h : allK (mkB c) k l) (hk : k ≤ 100) : mkOk l :=
  ⟨by have := h.1; omega, fun x hx => by have := (h.2 x hx).1; unfold mkK; omega⟩
theorem pnOk_of {k : Nat} {l : List Pnl} (h : allK pnG k l) (hk : k ≤ 100) : pnOk l :=
  ⟨by have := h.1; omega, fun x hx => by have := h.2 x hx; unfold pnG at this; unfold pnK; omega⟩
abbrev skV (p : List Pnl) (r : Rul) (a b : List Mrk) : SV := .agg [.d (pnls p), .d (.int .i64 r.near), .d (.int .i64 r.slack), .d (.int .i64 r.join), .d (.int .i64 r.part), .d (mrks a), .d (mrks b), .d (.int .i64 (twoE p r a b))]
-- sketchOf
theorem z46 (n : Nat) (L : Nat → Int) (hL : Rok n L) (a : Int) (h0 : 0 ≤ a) (ha : a ≤ 2^36) :
    FSpec Tryz.prog 46 [.ptr 1000000 0] [(1000000, strm n L a)] (fun y r => (∃ p z m o, allK pnG 3 p ∧ allK mkG 8 m ∧ allK (mkB 1099511627792) 10 o ∧ y = skV p z m o) ∧ Moved n L a 400 r) := by
  refine spec_of hT (C := []) Tryz.func46 rfl Tryz.call46 rfl rfl rfl ?_
  conv => whnf
  repeat' (first
    | (refine CallX.of (s95 n L hL _ ?_ ?_ ) [(1000000, 1000000)] rfl ⟨SV.le_refl _, trivial⟩ ⟨Res.le_refl _, trivial⟩ rfl rfl ?_; rotate_right; rintro x rout ⟨⟨p, q1, rfl⟩, ⟨c, c1, c2, rfl⟩⟩; have hp := pnOk_of q1 (by omega); refine ⟨rfl, ?_⟩; conv => whnf)
    | (refine CallX.of (s97 n L hL _ ?_ ?_ ) [(1000000, 1000000)] rfl ⟨SV.le_refl _, trivial⟩ ⟨Res.le_refl _, trivial⟩ rfl rfl ?_; rotate_right; rintro x rout ⟨⟨z, rfl⟩, ⟨c, c1, c2, rfl⟩⟩; refine ⟨rfl, ?_⟩; conv => whnf)
    | (refine CallX.of (s64 n L hL _ ?_ ?_ _ _ ?_ ?_ ?_ ?_) [(1000000, 1000000)] rfl ⟨SV.le_refl _, SV.le_refl _, SV.le_refl _, trivial⟩ ⟨Res.le_refl _, trivial⟩ rfl rfl ?_; rotate_right; rintro x rout ⟨⟨m, hm1, hm2, rfl⟩, ⟨c, c1, c2, rfl⟩⟩; refine ⟨rfl, ?_⟩; conv => whnf)
    | (refine CallX.of (s96 n L hL _ ?_ ?_ m ?_ ?_) [(1000000, 1000000)] rfl ⟨SV.le_refl _, SV.le_refl _, trivial⟩ ⟨Res.le_refl _, trivial⟩ rfl rfl ?_; rotate_right; rintro x rout ⟨⟨m1, q2, rfl⟩, ⟨c, c1, c2, rfl⟩⟩; have hm := mkOk_of q2 (by omega); refine ⟨rfl, ?_⟩; conv => whnf)
    | (refine CallX.of (z141 n L hL _ ?_ ?_ m1 8 (by omega) 1099511627776 (by omega) (by omega) (allK_le q2 (by omega))) [(1000000, 1000000)] rfl ⟨SV.le_refl _, SV.le_refl _, trivial⟩ ⟨Res.le_refl _, trivial⟩ rfl rfl ?_; rotate_right; rintro x rout ⟨⟨o, q3, rfl⟩, ⟨c, c1, c2, rfl⟩⟩; have ho := mkOk_of q3 (by omega); refine ⟨rfl, ?_⟩; conv => whnf)
    | (refine CallX.exact (s103 z) rfl rfl ?_; rotate_right; conv => whnf)
    | (refine CallX.exact (s101 p m1 hp hm) rfl rfl ?_; rotate_right; conv => whnf)
    | (refine CallX.exact (s101 p o hp ho) rfl rfl ?_; rotate_right; conv => whnf)
    | (refine CallX.pure (s17 [rulE z, mrksPE p m1, mrksPE p o] (by simp)) ⟨SV.le_lit (by rfl) (by rfl), trivial⟩ rfl ?_; conv => whnf)
    | (refine br_intro (fun hb => ?_) (fun hb => ?_) <;> (try simp only [decide_eq_true_eq, decide_eq_false_iff_not, Bool.not_eq_true', Bool.not_eq_false', Bool.and_eq_true, Bool.or_eq_true, beq_iff_eq, not_and, Int.not_le, Int.not_lt, Int.toNat_natCast, beq_eq_false_iff_ne, ne_eq, eq_self, not_true_eq_false, not_false_eq_true] at hb) <;> (conv => whnf))
    | (refine RegX.rule (id := 3) hT rfl [] [(0, []), (1, []), (3, [0, 1]), (4, [0, 1]), (5, [0, 1, 3, 4]), (6, [0, 1, 3, 4]), (8, [0, 1, 3, 4, 5, 6]), (9, [0, 1, 3, 4, 5, 6]), (10, [0, 1, 3, 4, 5, 6, 8, 9]), (11, [0, 1, 3, 4, 5, 6, 8, 9]), (2, [3, 4, 5, 6, 8, 9, 10, 11]), (7, [8, 9, 10, 11]), (12, []), (13, []), (14, []), (15, []), (16, [])] (by decide +kernel) ?_; conv => whnf)
    | omega
    | (refine And.intro ?_ ?_; ((try dsimp only); first | omega | (refine ⟨by omega, by omega, Int.le_trans (Int.mul_le_mul_of_nonneg_right (Int.ofNat_le.2 (Nat.le_of_ble_eq_true (rfl : Nat.ble _ 1024 = true))) (by omega)) (by omega), by omega⟩) | (refine Nat.le_trans (Nat.mul_le_mul_left _ (Nat.le_of_ble_eq_true (rfl : Nat.ble _ 1024 = true))) ?_; omega) | (unfold inI64; omega) | (constructor <;> omega) | (simp only [inI64, List.length_cons, List.length_append, List.length_nil, List.length_set] at *; omega) | decide | (unfold inI64; decide)); conv => whnf)
    | omega | decide | assumption)
  refine .ret _ ?_
  conv => whnf
  refine ⟨[(1000000, strm n L _)], ⟨⟨p, z, m1, o, q1, allK_le q2 (by omega), q3, ?_⟩, _, by omega, by omega, rfl⟩, Res.le_refl _, trivial⟩
  rw [show skV p z m1 o = .agg [.d (pnls p), .d (.int .i64 z.near), .d (.int .i64 z.slack), .d (.int .i64 z.join), .d (.int .i64 z.part), .d (mrks m1), .d (mrks o), .d (.int .i64 (firstE [rulE z, mrksPE p m1, mrksPE p o]))] from by rw [twoE_eq]]
  rfl
end Go.Proofs.YtnkdlkgannnfhaaGreatDoor
set_option maxRecDepth 20000
namespace Go.Proofs.YtnkdlkgannnfhaaGreatDoor
open Go Go.Eng
structure Rep where
  kind : Int
  size : Int
  cents : Int
def reF : Rep → List DV := fun x => [.int .i64 x.kind, .int .i64 x.size, .int .i64 x.cents]
def re0 : Rep := ⟨0, 0, 0⟩
abbrev reps (l : List Rep) : DV := seqD 3 reF re0 l
def repE (l : List Rep) (i : Nat) : Int :=
  if ¬ (1 ≤ (l.getD i re0).kind ∧ (l.getD i re0).kind ≤ 4) then 4
  else if ¬ ((1 ≤ (l.getD i re0).size ∧ (l.getD i re0).size ≤ 2000) ∧ (0 ≤ (l.getD i re0).cents ∧ (l.getD i re0).cents ≤ 1000000)) then 1
  else if 0 < i ∧ ((l.getD i re0).kind < (l.getD (i - 1) re0).kind ∨ ((l.getD i re0).kind = (l.getD (i - 1) re0).kind ∧ (l.getD i re0).size ≤ (l.getD (i - 1) re0).size)) then 7 else 0
def repsE (l : List Rep) : Int := if 100 < l.length then 2 else firstAt (repE l) l.length
def reK (_ : Rep) : Prop := True
def reOk (l : List Rep) : Prop := l.length ≤ 2^40 ∧ ∀ x ∈ l, reK x
theorem s182p (a b c d : Int) : FSpec Tryz.prog 196 [.d (ints [cmpI a b, cmpI c d])] [] (fun x r => x = .d (.int .i64 (if a < b then -1 else if b < a then 1 else if c < d then -1 else if d < c then 1 else 0)) ∧ r = []) := by
  have h := s182 [cmpI a b, cmpI c d] (by simp)
  rwa [show firstE [cmpI a b, cmpI c d] = (if a < b then -1 else if b < a then 1 else if c < d then -1 else if d < c then 1 else 0) from by simp only [firstE, cmpI]; grind] at h
-- RepairsFault
theorem z86 (l : List Rep) (hk : reOk l) : FSpec Tryz.prog 86 [.d (reps l)] [] (fun x r => x = .d (.int .i64 (repsE l)) ∧ r = []) := by
  refine spec_of hT (C := []) Tryz.func86 rfl Tryz.call86 rfl rfl rfl ?_
  conv => whnf
  refine br_intro (fun h0 => ?_) (fun h0 => ?_)
  · simp at h0
    conv => whnf
    refine .ret _ ?_
    conv => whnf
    refine ⟨[], ⟨?_, rfl⟩, trivial⟩
    conv => lhs; whnf
    unfold repsE; rw [if_pos (by omega)]
  simp at h0
  conv => whnf
  refine LoopX.rule hT (C := []) (ι := Nat) (fun i => i ≤ l.length ∧ ∀ j, j < i → repE l j = 0) (fun i => mkSt [(0, .d (reps l)), (8, .d (reps l)), (9, .d (.int .i64 l.length)), (10, .d (.int .i64 i))] []) (fun i => l.length - i) 0 ⟨by omega, by omega⟩ (by refine Entails.mk' [] rfl rfl ?_ ?_ <;> repeat' (first | exact True.intro | exact SV.le_refl _ | exact Res.le_refl _ | exact SV.le_int (by omega) | exact SV.le_any _ | refine And.intro ?_ ?_)) ?_
  rintro i ⟨p1, p2⟩
  have hx : (i : Int) < l.length → reK (l.getD (i : Int).toNat re0) := fun hi => hk.2 _ (getD_mem (by omega))
  have e1 : (i : Int).toNat = i := Int.toNat_natCast i
  have hbad : ∀ e : Int, i < l.length → e ≠ 0 → repE l i = e → repsE l = e := fun e h h1 h2 => by
    unfold repsE; rw [if_neg (by omega)]
    exact firstAt_eq h p2 h1 h2
  conv => whnf
  repeat' (first
    | (refine CallX.exact (s109 _ _ _) rfl rfl ?_; rotate_right; conv => whnf)
    | (refine br_intro (fun hb => ?_) (fun hb => ?_) <;> (try simp only [decide_eq_true_eq, decide_eq_false_iff_not, Bool.not_eq_true', Bool.not_eq_false', Bool.and_eq_true, Bool.or_eq_true, beq_iff_eq, not_and, Int.not_le, Int.not_lt, Int.toNat_natCast, beq_eq_false_iff_ne, ne_eq, eq_self, not_true_eq_false, not_false_eq_true] at hb) <;> (conv => whnf))
    | (refine RegX.rule (id := 10) hT rfl [] [(0, []), (1, []), (2, []), (3, []), (4, []), (5, [3, 4]), (6, [3, 4, 5]), (7, [3, 4, 5]), (8, [3, 4]), (9, [3, 4]), (10, [3, 4]), (11, []), (12, []), (13, []), (14, []), (15, [13, 14]), (16, [13, 14, 15]), (17, [13, 14, 15]), (18, [13, 14]), (19, [13, 14]), (20, [13, 14]), (21, []), (22, []), (23, []), (24, []), (25, [23, 24]), (26, [23, 24, 25]), (27, [23, 24, 25]), (28, [23, 24]), (29, [23, 24]), (30, [23, 24]), (31, []), (32, []), (33, []), (34, []), (35, [])] (by decide +kernel) ?_; conv => whnf)
    | omega
    | (refine And.intro ?_ ?_; ((try dsimp only); first | omega | (refine ⟨by omega, by omega, Int.le_trans (Int.mul_le_mul_of_nonneg_right (Int.ofNat_le.2 (Nat.le_of_ble_eq_true (rfl : Nat.ble _ 1024 = true))) (by omega)) (by omega), by omega⟩) | (refine Nat.le_trans (Nat.mul_le_mul_left _ (Nat.le_of_ble_eq_true (rfl : Nat.ble _ 1024 = true))) ?_; omega) | (unfold inI64; omega) | (constructor <;> omega) | (simp only [inI64, List.length_cons, List.length_append, List.length_nil, List.length_set] at *; omega) | decide | (unfold inI64; decide)); conv => whnf)
    | omega | decide | assumption)
  all_goals first
    | (refine ⟨i + 1, ⟨by omega, first_step p2 (by clear p2 hbad hk hx; simp only [e1, toNat_pred] at *; unfold repE ; grind)⟩, by omega, (by refine Entails.mk' [] rfl rfl ?_ ?_ <;> repeat' (first | exact True.intro | exact SV.le_refl _ | exact Res.le_refl _ | exact SV.le_int (by omega) | exact SV.le_any _ | refine And.intro ?_ ?_))⟩)
    | (refine .ret _ ?_
       conv => whnf
       refine ⟨[], ⟨?_, rfl⟩, trivial⟩
       conv => lhs; whnf
       congr 2
       first
         | exact (hbad _ (by omega) (by decide) (by clear p2 hbad hk hx; simp only [e1, toNat_pred] at *; unfold repE ; grind)).symm
         | (have : i = l.length := by omega
            subst this
            unfold repsE; rw [if_neg (by omega), firstAt_zero p2]))
-- mark.CheckRepairs
theorem z94 (l : List Rep) (hk : reOk l) : FSpec Tryz.prog 94 [.d (reps l)] [] (fun x r => x = .d (.int .i64 (repsE l)) ∧ r = []) := by
  refine spec_of hT (C := []) Tryz.func94 rfl Tryz.call94 rfl rfl rfl ?_
  conv => whnf
  refine br_intro (fun h0 => ?_) (fun h0 => ?_)
  · simp at h0
    conv => whnf
    refine .ret _ ?_
    conv => whnf
    refine ⟨[], ⟨?_, rfl⟩, trivial⟩
    conv => lhs; whnf
    unfold repsE; rw [if_pos (by omega)]
  simp at h0
  conv => whnf
  refine LoopX.rule hT (C := []) (ι := Nat) (fun i => i ≤ l.length ∧ ∀ j, j < i → repE l j = 0) (fun i => mkSt [(0, .d (reps l)), (8, .d (reps l)), (9, .d (.int .i64 l.length)), (10, .d (.int .i64 i))] []) (fun i => l.length - i) 0 ⟨by omega, by omega⟩ (by refine Entails.mk' [] rfl rfl ?_ ?_ <;> repeat' (first | exact True.intro | exact SV.le_refl _ | exact Res.le_refl _ | exact SV.le_int (by omega) | exact SV.le_any _ | refine And.intro ?_ ?_)) ?_
  rintro i ⟨p1, p2⟩
  have hx : (i : Int) < l.length → reK (l.getD (i : Int).toNat re0) := fun hi => hk.2 _ (getD_mem (by omega))
  have e1 : (i : Int).toNat = i := Int.toNat_natCast i
  have hbad : ∀ e : Int, i < l.length → e ≠ 0 → repE l i = e → repsE l = e := fun e h h1 h2 => by
    unfold repsE; rw [if_neg (by omega)]
    exact firstAt_eq h p2 h1 h2
  conv => whnf
  repeat' (first
    | (refine CallX.exact (s119 _ _ _) rfl rfl ?_; rotate_right; conv => whnf)
    | (refine CallX.exact (s183 _ _) rfl rfl ?_; rotate_right; conv => whnf)
    | (refine CallX.pure (s182p _ _ _ _) ⟨SV.le_lit (by rfl) (by rfl), trivial⟩ rfl ?_; conv => whnf)
    | (refine br_intro (fun hb => ?_) (fun hb => ?_) <;> (try simp only [decide_eq_true_eq, decide_eq_false_iff_not, Bool.not_eq_true', Bool.not_eq_false', Bool.and_eq_true, Bool.or_eq_true, beq_iff_eq, not_and, Int.not_le, Int.not_lt, Int.toNat_natCast, beq_eq_false_iff_ne, ne_eq, eq_self, not_true_eq_false, not_false_eq_true] at hb) <;> (conv => whnf))
    | (refine RegX.rule (id := 10) hT rfl [] [(0, []), (1, []), (2, []), (3, []), (4, [3]), (5, [3]), (6, []), (7, []), (8, []), (9, [3, 4, 5, 6, 7, 8]), (10, [3, 4, 5, 6, 7, 8]), (12, [3, 4, 5, 6, 7, 8, 9, 10]), (13, [3, 4, 5, 6, 7, 8, 9, 10, 12]), (14, [3, 4, 5, 6, 7, 8, 9, 10, 12]), (15, [3, 4, 5, 6, 7, 8, 9, 10]), (16, [3, 4, 5, 6, 7, 8, 9, 10]), (17, [3, 4, 5, 6, 7, 8, 9, 10]), (18, [3, 4, 5, 6, 7, 8, 9, 10, 12, 13, 14, 15, 16, 17]), (19, [3, 4, 5, 6, 7, 8, 9, 10, 12, 13, 14, 15, 16, 17]), (11, [12, 13, 14, 15, 16, 17, 18, 19]), (20, []), (21, []), (22, []), (23, []), (24, []), (25, [])] (by decide +kernel) ?_; conv => whnf)
    | omega
    | (refine And.intro ?_ ?_; ((try dsimp only); first | omega | (refine ⟨by omega, by omega, Int.le_trans (Int.mul_le_mul_of_nonneg_right (Int.ofNat_le.2 (Nat.le_of_ble_eq_true (rfl : Nat.ble _ 1024 = true))) (by omega)) (by omega), by omega⟩) | (refine Nat.le_trans (Nat.mul_le_mul_left _ (Nat.le_of_ble_eq_true (rfl : Nat.ble _ 1024 = true))) ?_; omega) | (unfold inI64; omega) | (constructor <;> omega) | (simp only [inI64, List.length_cons, List.length_append, List.length_nil, List.length_set] at *; omega) | decide | (unfold inI64; decide)); conv => whnf)
    | omega | decide | assumption)
  all_goals first
    | (refine ⟨i + 1, ⟨by omega, first_step p2 (by clear p2 hbad hk hx; simp only [e1, toNat_pred] at *; unfold repE ; grind)⟩, by omega, (by refine Entails.mk' [] rfl rfl ?_ ?_ <;> repeat' (first | exact True.intro | exact SV.le_refl _ | exact Res.le_refl _ | exact SV.le_int (by omega) | exact SV.le_any _ | refine And.intro ?_ ?_))⟩)
    | (refine .ret _ ?_
       conv => whnf
       refine ⟨[], ⟨?_, rfl⟩, trivial⟩
       conv => lhs; whnf
       congr 2
       first
         | exact (hbad _ (by omega) (by decide) (by clear p2 hbad hk hx; simp only [e1, toNat_pred] at *; unfold repE ; grind)).symm
         | (have : i = l.length := by omega
            subst this
            unfold repsE; rw [if_neg (by omega), firstAt_zero p2]))
def prcN (l : List Rep) (m : Mrk) : Nat → Int
  | 0 => 0
  | i + 1 => if (l.getD i re0).kind = m.kind ∧ (l.getD i re0).size ≤ m.size then (l.getD i re0).cents else prcN l m i
def price (l : List Rep) (m : Mrk) : Int := prcN l m l.length
-- PriceOf
theorem z96 (l : List Rep) (m : Mrk) (hl : l.length ≤ 2^40) : FSpec Tryz.prog 96 [.d (reps l), .agg ((mkF m).map .d)] [] (fun x r => x = .d (.int .i64 (price l m)) ∧ r = []) := by
  refine spec_of hT (C := []) Tryz.func96 rfl Tryz.call96 rfl rfl rfl ?_
  conv => whnf
  refine LoopX.rule hT (C := []) (ι := Nat) (fun i => i ≤ l.length) (fun i => mkSt [(3, .ptr 3 0), (5, .d (.int .i64 (prcN l m i))), (8, .d (reps l)), (9, .d (.int .i64 l.length)), (10, .d (.int .i64 i))] [(3, mcell m)]) (fun i => l.length - i) 0 (by omega) (by refine Entails.mk' [(3, 3)] rfl rfl ?_ ?_ <;> repeat' (first | exact True.intro | exact SV.le_refl _ | exact Res.le_refl _ | exact SV.le_int (by omega) | exact SV.le_any _ | refine And.intro ?_ ?_)) ?_
  rintro i p1
  have e1 : (i : Int).toNat = i := Int.toNat_natCast i
  have hs : prcN l m (i + 1) = if (l.getD i re0).kind = m.kind ∧ (l.getD i re0).size ≤ m.size then (l.getD i re0).cents else prcN l m i := rfl
  conv => whnf
  repeat' (first
    | (refine br_intro (fun hb => ?_) (fun hb => ?_) <;> (try simp only [decide_eq_true_eq, decide_eq_false_iff_not, Bool.not_eq_true', Bool.not_eq_false', Bool.and_eq_true, Bool.or_eq_true, beq_iff_eq, not_and, Int.not_le, Int.not_lt, Int.toNat_natCast, beq_eq_false_iff_ne, ne_eq, eq_self, not_true_eq_false, not_false_eq_true] at hb) <;> (conv => whnf))
    | omega
    | (refine And.intro ?_ ?_; ((try dsimp only); first | omega | (refine ⟨by omega, by omega, Int.le_trans (Int.mul_le_mul_of_nonneg_right (Int.ofNat_le.2 (Nat.le_of_ble_eq_true (rfl : Nat.ble _ 1024 = true))) (by omega)) (by omega), by omega⟩) | (refine Nat.le_trans (Nat.mul_le_mul_left _ (Nat.le_of_ble_eq_true (rfl : Nat.ble _ 1024 = true))) ?_; omega) | (unfold inI64; omega) | (constructor <;> omega) | (simp only [inI64, List.length_cons, List.length_append, List.length_nil, List.length_set] at *; omega) | decide | (unfold inI64; decide)); conv => whnf)
    | omega | decide | assumption)
  all_goals first
    | (have hq : (l.getD i re0).kind = m.kind ∧ (l.getD i re0).size ≤ m.size := by simp only [e1] at *; grind
       refine ⟨i + 1, by omega, by omega, ?_⟩
       rw [hs, if_pos hq]
       exact Entails.mk' [(3, 3)] rfl rfl ⟨SV.le_refl _, SV.le_refl _, SV.le_refl _, SV.le_refl _, SV.le_refl _, trivial⟩ ⟨Res.le_refl _, trivial⟩)
    | (have hq : ¬ ((l.getD i re0).kind = m.kind ∧ (l.getD i re0).size ≤ m.size) := by simp only [e1] at *; grind
       refine ⟨i + 1, by omega, by omega, ?_⟩
       rw [hs, if_neg hq]
       exact Entails.mk' [(3, 3)] rfl rfl ⟨SV.le_refl _, SV.le_refl _, SV.le_refl _, SV.le_refl _, SV.le_refl _, trivial⟩ ⟨Res.le_refl _, trivial⟩)
    | (refine .ret _ ?_
       conv => whnf
       refine ⟨[], ⟨?_, rfl⟩, trivial⟩
       conv => lhs; whnf
       have : i = l.length := by omega
       subst this
       rfl)
-- mark.price
theorem z192 (l : List Rep) (m : Mrk) (hl : l.length ≤ 2^40) : FSpec Tryz.prog 192 [.d (reps l), .agg ((mkF m).map .d)] [] (fun x r => x = .d (.int .i64 (price l m)) ∧ r = []) := by
  refine spec_of hT (C := []) Tryz.func192 rfl Tryz.call192 rfl rfl rfl ?_
  conv => whnf
  refine LoopX.rule hT (C := []) (ι := Nat) (fun i => i ≤ l.length) (fun i => mkSt [(3, .ptr 3 0), (5, .d (.int .i64 (prcN l m i))), (8, .d (reps l)), (9, .d (.int .i64 l.length)), (10, .d (.int .i64 i))] [(3, mcell m)]) (fun i => l.length - i) 0 (by omega) (by refine Entails.mk' [(3, 3)] rfl rfl ?_ ?_ <;> repeat' (first | exact True.intro | exact SV.le_refl _ | exact Res.le_refl _ | exact SV.le_int (by omega) | exact SV.le_any _ | refine And.intro ?_ ?_)) ?_
  rintro i p1
  have e1 : (i : Int).toNat = i := Int.toNat_natCast i
  have hs : prcN l m (i + 1) = if (l.getD i re0).kind = m.kind ∧ (l.getD i re0).size ≤ m.size then (l.getD i re0).cents else prcN l m i := rfl
  conv => whnf
  repeat' (first
    | (refine br_intro (fun hb => ?_) (fun hb => ?_) <;> (try simp only [decide_eq_true_eq, decide_eq_false_iff_not, Bool.not_eq_true', Bool.not_eq_false', Bool.and_eq_true, Bool.or_eq_true, beq_iff_eq, not_and, Int.not_le, Int.not_lt, Int.toNat_natCast, beq_eq_false_iff_ne, ne_eq, eq_self, not_true_eq_false, not_false_eq_true] at hb) <;> (conv => whnf))
    | omega
    | (refine And.intro ?_ ?_; ((try dsimp only); first | omega | (refine ⟨by omega, by omega, Int.le_trans (Int.mul_le_mul_of_nonneg_right (Int.ofNat_le.2 (Nat.le_of_ble_eq_true (rfl : Nat.ble _ 1024 = true))) (by omega)) (by omega), by omega⟩) | (refine Nat.le_trans (Nat.mul_le_mul_left _ (Nat.le_of_ble_eq_true (rfl : Nat.ble _ 1024 = true))) ?_; omega) | (unfold inI64; omega) | (constructor <;> omega) | (simp only [inI64, List.length_cons, List.length_append, List.length_nil, List.length_set] at *; omega) | decide | (unfold inI64; decide)); conv => whnf)
    | omega | decide | assumption)
  all_goals first
    | (have hq : (l.getD i re0).kind = m.kind ∧ (l.getD i re0).size ≤ m.size := by simp only [e1] at *; grind
       refine ⟨i + 1, by omega, by omega, ?_⟩
       rw [hs, if_pos hq]
       exact Entails.mk' [(3, 3)] rfl rfl ⟨SV.le_refl _, SV.le_refl _, SV.le_refl _, SV.le_refl _, SV.le_refl _, trivial⟩ ⟨Res.le_refl _, trivial⟩)
    | (have hq : ¬ ((l.getD i re0).kind = m.kind ∧ (l.getD i re0).size ≤ m.size) := by simp only [e1] at *; grind
       refine ⟨i + 1, by omega, by omega, ?_⟩
       rw [hs, if_neg hq]
       exact Entails.mk' [(3, 3)] rfl rfl ⟨SV.le_refl _, SV.le_refl _, SV.le_refl _, SV.le_refl _, SV.le_refl _, trivial⟩ ⟨Res.le_refl _, trivial⟩)
    | (refine .ret _ ?_
       conv => whnf
       refine ⟨[], ⟨?_, rfl⟩, trivial⟩
       conv => lhs; whnf
       have : i = l.length := by omega
       subst this
       rfl)
-- slices.EqualFunc of groups
theorem z92 (l m : List (List Int)) (hl : l.length ≤ 2^40) (hi : ∀ g ∈ l, g.length ≤ 2^40) (hm : ∀ g ∈ m, g.length ≤ 2^40) : FSpec Tryz.prog 92 [.d (grs l), .d (grs m), .fn 45 []] [] (fun x r => x = .d (.bool (decide (l = m))) ∧ r = []) := by
  refine spec_of hT (C := []) Tryz.func92 rfl Tryz.call92 rfl rfl rfl ?_
  conv => whnf
  repeat' (first
    | (refine br_intro (fun hb => ?_) (fun hb => ?_) <;> (try simp only [decide_eq_true_eq, decide_eq_false_iff_not, Bool.not_eq_true', Bool.not_eq_false', Bool.and_eq_true, Bool.or_eq_true, beq_iff_eq, not_and, Int.not_le, Int.not_lt, Int.toNat_natCast, beq_eq_false_iff_ne, ne_eq, eq_self, not_true_eq_false, not_false_eq_true] at hb) <;> (conv => whnf))
    | omega
    | (refine And.intro ?_ ?_; ((try dsimp only); first | omega | (refine ⟨by omega, by omega, Int.le_trans (Int.mul_le_mul_of_nonneg_right (Int.ofNat_le.2 (Nat.le_of_ble_eq_true (rfl : Nat.ble _ 1024 = true))) (by omega)) (by omega), by omega⟩) | (refine Nat.le_trans (Nat.mul_le_mul_left _ (Nat.le_of_ble_eq_true (rfl : Nat.ble _ 1024 = true))) ?_; omega) | (unfold inI64; omega) | (constructor <;> omega) | (simp only [inI64, List.length_cons, List.length_append, List.length_nil, List.length_set] at *; omega) | decide | (unfold inI64; decide)); conv => whnf)
    | omega | decide | assumption)
  · refine .ret _ ?_
    conv => whnf
    refine ⟨[], ⟨?_, rfl⟩, trivial⟩
    conv => lhs; whnf
    have : ¬ l = m := fun q => by subst q; simp at hb
    simp [this]
  have hlen : l.length = m.length := by omega
  refine LoopX.rule hT (C := []) (ι := Nat) (fun i => i ≤ l.length ∧ ∀ j, j < i → l.getD j [] = m.getD j []) (fun i => mkSt [(1, .d (grs m)), (2, .fn 45 []), (15, .d (grs l)), (16, .d (.int .i64 l.length)), (17, .d (.int .i64 i))] []) (fun i => l.length - i) 0 ⟨by omega, by omega⟩ (by refine Entails.mk' [] rfl rfl ?_ ?_ <;> repeat' (first | exact True.intro | exact SV.le_refl _ | exact Res.le_refl _ | exact SV.le_int (by omega) | exact SV.le_any _ | refine And.intro ?_ ?_)) ?_
  rintro i ⟨p1, p2⟩
  have e1 : (i : Int).toNat = i := Int.toNat_natCast i
  have h37 := fun (h : i < l.length) => s37 (l.getD i []) (m.getD i []) (hi _ (getD_mem h)) (hm _ (getD_mem (by omega)))
  conv => whnf
  repeat' (first
    | (refine CallX.exact (h37 (by omega)) rfl rfl ?_; rotate_right; conv => whnf)
    | (refine br_intro (fun hb => ?_) (fun hb => ?_) <;> (try simp only [decide_eq_true_eq, decide_eq_false_iff_not, Bool.not_eq_true', Bool.not_eq_false', Bool.and_eq_true, Bool.or_eq_true, beq_iff_eq, not_and, Int.not_le, Int.not_lt, Int.toNat_natCast, beq_eq_false_iff_ne, ne_eq, eq_self, not_true_eq_false, not_false_eq_true] at hb) <;> (conv => whnf))
    | omega
    | (refine And.intro ?_ ?_; ((try dsimp only); first | omega | (refine ⟨by omega, by omega, Int.le_trans (Int.mul_le_mul_of_nonneg_right (Int.ofNat_le.2 (Nat.le_of_ble_eq_true (rfl : Nat.ble _ 1024 = true))) (by omega)) (by omega), by omega⟩) | (refine Nat.le_trans (Nat.mul_le_mul_left _ (Nat.le_of_ble_eq_true (rfl : Nat.ble _ 1024 = true))) ?_; omega) | (unfold inI64; omega) | (constructor <;> omega) | (simp only [inI64, List.length_cons, List.length_append, List.length_nil, List.length_set] at *; omega) | decide | (unfold inI64; decide)); conv => whnf)
    | omega | decide | assumption)
  · refine .ret _ ?_
    conv => whnf
    refine ⟨[], ⟨?_, rfl⟩, trivial⟩
    conv => lhs; whnf
    have : ¬ l = m := fun q => by subst q; simp at hb
    simp [this]
  · exact ⟨i + 1, ⟨by omega, all_step p2 (by simpa using hb)⟩, by omega, (by refine Entails.mk' [] rfl rfl ?_ ?_ <;> repeat' (first | exact True.intro | exact SV.le_refl _ | exact Res.le_refl _ | exact SV.le_int (by omega) | exact SV.le_any _ | refine And.intro ?_ ?_))⟩
  · refine .ret _ ?_
    conv => whnf
    refine ⟨[], ⟨?_, rfl⟩, trivial⟩
    conv => lhs; whnf
    have : i = l.length := by omega
    subst this
    simp [eq_of_getD [] hlen p2]
def grpE (p : List Pnl) (r : Rul) (l : List Mrk) : Int := firstE [rulE r, mrksPE p l]
theorem grpE_zero {p : List Pnl} {r : Rul} {l : List Mrk} (h : grpE p r l = 0) : rulE r = 0 ∧ onPE p l = 0 := by
  unfold grpE mrksPE at h
  simp only [firstE] at h
  grind
noncomputable def grpV (p : List Pnl) (r : Rul) (l : List Mrk) : SV := if grpE p r l = 0 then .tup [.d (grs (grI r l l.length)), .d (.int .i64 0)] else .tup [.d .nilsl, .d (.int .i64 (grpE p r l))]
-- mark.Groups
theorem z90 (p : List Pnl) (r : Rul) (l : List Mrk) (hp : pnOk p) (hk : mkOk l) (hl12 : l.length ≤ 12) : FSpec Tryz.prog 90 [.d (pnls p), .agg ((ruF r).map .d), .d (mrks l)] [] (fun x r' => x = grpV p r l ∧ r' = []) := by
  have h105 := s105 [rulE r, mrksPE p l] (by simp)
  unfold grpV
  by_cases hz : grpE p r l = 0
  · rw [if_pos hz]
    rw [show firstE [rulE r, mrksPE p l] = 0 from hz] at h105
    obtain ⟨h1, h2⟩ := grpE_zero hz
    have h191 := z191 r l (rulE_bd h1) hl12 (onPE_mBd h2).2
    refine spec_of hT (C := []) Tryz.func90 rfl Tryz.call90 rfl rfl rfl ?_
    conv => whnf
    repeat' (first
      | (refine CallX.exact (s102 r) rfl rfl ?_; rotate_right; conv => whnf)
      | (refine CallX.exact (s100 p l hp hk) rfl rfl ?_; rotate_right; conv => whnf)
      | (refine CallX.pure h105 ⟨SV.le_lit (by rfl) (by rfl), trivial⟩ rfl ?_; conv => whnf)
      | (refine CallX.exact (h191) rfl rfl ?_; rotate_right; conv => whnf)
      | (refine br_intro (fun hb => ?_) (fun hb => ?_) <;> (try simp only [decide_eq_true_eq, decide_eq_false_iff_not, Bool.not_eq_true', Bool.not_eq_false', Bool.and_eq_true, Bool.or_eq_true, beq_iff_eq, not_and, Int.not_le, Int.not_lt, Int.toNat_natCast, beq_eq_false_iff_ne, ne_eq, eq_self, not_true_eq_false, not_false_eq_true] at hb) <;> (conv => whnf))
      | omega
      | (refine And.intro ?_ ?_; ((try dsimp only); first | omega | (refine ⟨by omega, by omega, Int.le_trans (Int.mul_le_mul_of_nonneg_right (Int.ofNat_le.2 (Nat.le_of_ble_eq_true (rfl : Nat.ble _ 1024 = true))) (by omega)) (by omega), by omega⟩) | (refine Nat.le_trans (Nat.mul_le_mul_left _ (Nat.le_of_ble_eq_true (rfl : Nat.ble _ 1024 = true))) ?_; omega) | (unfold inI64; omega) | (constructor <;> omega) | (simp only [inI64, List.length_cons, List.length_append, List.length_nil, List.length_set] at *; omega) | decide | (unfold inI64; decide)); conv => whnf)
      | omega | decide | assumption)
    refine .ret _ ?_
    conv => whnf
    refine ⟨[], ⟨congrArg SV.tup ?_, rfl⟩, trivial⟩
    repeat' (refine cons_eq ?_ ?_)
    all_goals (conv => lhs; whnf)
    all_goals try (with_reducible rfl)
    all_goals rfl
  · rw [if_neg hz]
    rw [show firstE [rulE r, mrksPE p l] = grpE p r l from rfl] at h105
    generalize grpE p r l = e at h105 hz
    refine spec_of hT (C := []) Tryz.func90 rfl Tryz.call90 rfl rfl rfl ?_
    conv => whnf
    repeat' (first
      | (refine CallX.exact (s102 r) rfl rfl ?_; rotate_right; conv => whnf)
      | (refine CallX.exact (s100 p l hp hk) rfl rfl ?_; rotate_right; conv => whnf)
      | (refine CallX.pure h105 ⟨SV.le_lit (by rfl) (by rfl), trivial⟩ rfl ?_; conv => whnf)
      | (refine br_intro (fun hb => ?_) (fun hb => ?_) <;> (try simp only [decide_eq_true_eq, decide_eq_false_iff_not, Bool.not_eq_true', Bool.not_eq_false', Bool.and_eq_true, Bool.or_eq_true, beq_iff_eq, not_and, Int.not_le, Int.not_lt, Int.toNat_natCast, beq_eq_false_iff_ne, ne_eq, eq_self, not_true_eq_false, not_false_eq_true] at hb) <;> (conv => whnf))
      | omega
      | (refine And.intro ?_ ?_; ((try dsimp only); first | omega | (refine ⟨by omega, by omega, Int.le_trans (Int.mul_le_mul_of_nonneg_right (Int.ofNat_le.2 (Nat.le_of_ble_eq_true (rfl : Nat.ble _ 1024 = true))) (by omega)) (by omega), by omega⟩) | (refine Nat.le_trans (Nat.mul_le_mul_left _ (Nat.le_of_ble_eq_true (rfl : Nat.ble _ 1024 = true))) ?_; omega) | (unfold inI64; omega) | (constructor <;> omega) | (simp only [inI64, List.length_cons, List.length_append, List.length_nil, List.length_set] at *; omega) | decide | (unfold inI64; decide)); conv => whnf)
      | omega | decide | assumption)
    refine .ret _ ?_
    conv => whnf
    refine ⟨[], ⟨congrArg SV.tup ?_, rfl⟩, trivial⟩
    repeat' (refine cons_eq ?_ ?_)
    all_goals (conv => lhs; whnf)
    all_goals try (with_reducible rfl)
    all_goals rfl
def prE (l : List Rep) (m : Mrk) : Int := firstE [repsE l, mrksE [m]]
def prcV (l : List Rep) (m : Mrk) : SV := if prE l m = 0 then .tup [.d (.int .i64 (price l m)), .d (.int .i64 0)] else .tup [.d (.int .i64 0), .d (.int .i64 (prE l m))]
theorem mkOk_one {m : Mrk} (h : mkK m) : mkOk [m] := ⟨by simp, fun x hx => by rw [List.mem_singleton] at hx; rw [hx]; exact h⟩
-- mark.Price
theorem z91 (l : List Rep) (m : Mrk) (hl : reOk l) (hm : mkK m) : FSpec Tryz.prog 91 [.d (reps l), .agg ((mkF m).map .d)] [] (fun x r' => x = prcV l m ∧ r' = []) := by
  have h105 := s105 [repsE l, mrksE [m]] (by simp)
  have h192 := z192 l m hl.1
  unfold prcV
  by_cases hz : prE l m = 0
  · rw [if_pos hz]
    rw [show firstE [repsE l, mrksE [m]] = 0 from hz] at h105
    refine spec_of hT (C := []) Tryz.func91 rfl Tryz.call91 rfl rfl rfl ?_
    conv => whnf
    repeat' (first
      | (refine CallX.exact (z94 l hl) rfl rfl ?_; rotate_right; conv => whnf)
      | (refine CallX.pure (s192 [m] (mkOk_one hm)) ⟨SV.le_lit (by rfl) (by rfl), trivial⟩ rfl ?_; conv => whnf)
      | (refine CallX.pure h105 ⟨SV.le_lit (by rfl) (by rfl), trivial⟩ rfl ?_; conv => whnf)
      | (refine CallX.exact (h192) rfl rfl ?_; rotate_right; conv => whnf)
      | (refine br_intro (fun hb => ?_) (fun hb => ?_) <;> (try simp only [decide_eq_true_eq, decide_eq_false_iff_not, Bool.not_eq_true', Bool.not_eq_false', Bool.and_eq_true, Bool.or_eq_true, beq_iff_eq, not_and, Int.not_le, Int.not_lt, Int.toNat_natCast, beq_eq_false_iff_ne, ne_eq, eq_self, not_true_eq_false, not_false_eq_true] at hb) <;> (conv => whnf))
      | (refine RegX.rule (id := 1) hT rfl [] [(0, []), (2, [0]), (3, [0]), (1, [2, 3]), (4, []), (5, []), (6, []), (7, [])] (by decide +kernel) ?_; conv => whnf)
      | omega
      | (refine And.intro ?_ ?_; ((try dsimp only); first | omega | (refine ⟨by omega, by omega, Int.le_trans (Int.mul_le_mul_of_nonneg_right (Int.ofNat_le.2 (Nat.le_of_ble_eq_true (rfl : Nat.ble _ 1024 = true))) (by omega)) (by omega), by omega⟩) | (refine Nat.le_trans (Nat.mul_le_mul_left _ (Nat.le_of_ble_eq_true (rfl : Nat.ble _ 1024 = true))) ?_; omega) | (unfold inI64; omega) | (constructor <;> omega) | (simp only [inI64, List.length_cons, List.length_append, List.length_nil, List.length_set] at *; omega) | decide | (unfold inI64; decide)); conv => whnf)
      | omega | decide | assumption)
    refine .ret _ ?_
    conv => whnf
    refine ⟨[], ⟨congrArg SV.tup ?_, rfl⟩, trivial⟩
    repeat' (refine cons_eq ?_ ?_)
    all_goals (conv => lhs; whnf)
    all_goals try (with_reducible rfl)
    all_goals rfl
  · rw [if_neg hz]
    rw [show firstE [repsE l, mrksE [m]] = prE l m from rfl] at h105
    generalize prE l m = e at h105 hz
    refine spec_of hT (C := []) Tryz.func91 rfl Tryz.call91 rfl rfl rfl ?_
    conv => whnf
    repeat' (first
      | (refine CallX.exact (z94 l hl) rfl rfl ?_; rotate_right; conv => whnf)
      | (refine CallX.pure (s192 [m] (mkOk_one hm)) ⟨SV.le_lit (by rfl) (by rfl), trivial⟩ rfl ?_; conv => whnf)
      | (refine CallX.pure h105 ⟨SV.le_lit (by rfl) (by rfl), trivial⟩ rfl ?_; conv => whnf)
      | (refine br_intro (fun hb => ?_) (fun hb => ?_) <;> (try simp only [decide_eq_true_eq, decide_eq_false_iff_not, Bool.not_eq_true', Bool.not_eq_false', Bool.and_eq_true, Bool.or_eq_true, beq_iff_eq, not_and, Int.not_le, Int.not_lt, Int.toNat_natCast, beq_eq_false_iff_ne, ne_eq, eq_self, not_true_eq_false, not_false_eq_true] at hb) <;> (conv => whnf))
      | (refine RegX.rule (id := 1) hT rfl [] [(0, []), (2, [0]), (3, [0]), (1, [2, 3]), (4, []), (5, []), (6, []), (7, [])] (by decide +kernel) ?_; conv => whnf)
      | omega
      | (refine And.intro ?_ ?_; ((try dsimp only); first | omega | (refine ⟨by omega, by omega, Int.le_trans (Int.mul_le_mul_of_nonneg_right (Int.ofNat_le.2 (Nat.le_of_ble_eq_true (rfl : Nat.ble _ 1024 = true))) (by omega)) (by omega), by omega⟩) | (refine Nat.le_trans (Nat.mul_le_mul_left _ (Nat.le_of_ble_eq_true (rfl : Nat.ble _ 1024 = true))) ?_; omega) | (unfold inI64; omega) | (constructor <;> omega) | (simp only [inI64, List.length_cons, List.length_append, List.length_nil, List.length_set] at *; omega) | decide | (unfold inI64; decide)); conv => whnf)
      | omega | decide | assumption)
    refine .ret _ ?_
    conv => whnf
    refine ⟨[], ⟨congrArg SV.tup ?_, rfl⟩, trivial⟩
    repeat' (refine cons_eq ?_ ?_)
    all_goals (conv => lhs; whnf)
    all_goals try (with_reducible rfl)
    all_goals rfl
def reLit (u1 u2 u3 : Int) : List Rep := [⟨1, 1, u1⟩, ⟨1, u2, 3001⟩, ⟨2, u3, 2500⟩, ⟨3, 50, 999⟩]
theorem reLit_rows (u1 u2 u3 : Int) : ∀ i, i < (reLit u1 u2 u3).length → [[DV.int .i64 1, .int .i64 1, .int .i64 u1], [.int .i64 1, .int .i64 u2, .int .i64 3001], [.int .i64 2, .int .i64 u3, .int .i64 2500], [.int .i64 3, .int .i64 50, .int .i64 999]].getD i [] = rowF reF re0 (reLit u1 u2 u3) i := rows_lit rfl
-- Repairs
theorem sRep (n : Nat) (L : Nat → Int) (hL : Rok n L) (a : Int) (h0 : 0 ≤ a) (ha : a ≤ 2^38) :
    FSpec Tryz.prog 84 [.ptr 1000000 0] [(1000000, strm n L a)] (fun y r => (∃ l : List Rep, l.length ≤ 4 ∧ y = .d (reps l)) ∧ Moved n L a 20 r) := by
  refine spec_of hT (C := [17]) Tryz.func84 rfl Tryz.call84 rfl rfl rfl ?_
  conv => whnf
  repeat' (first
    | (refine CallX.of (s33 n L hL _ ?_ ?_ [0, 1000] ?_ ?_) [(1000000, 1000000)] rfl ⟨SV.le_refl _, SV.le_lit rfl rfl, trivial⟩ ⟨Res.le_refl _, trivial⟩ rfl rfl ?_; rotate_right; rintro x rout ⟨⟨u1, hu1, rfl⟩, ⟨c, c1, c2, rfl⟩⟩; refine ⟨rfl, ?_⟩; conv => whnf)
    | (refine CallX.of (s33 n L hL _ ?_ ?_ [8, 10, 11] ?_ ?_) [(1000000, 1000000)] rfl ⟨SV.le_refl _, SV.le_lit rfl rfl, trivial⟩ ⟨Res.le_refl _, trivial⟩ rfl rfl ?_; rotate_right; rintro x rout ⟨⟨u2, hu2, rfl⟩, ⟨c, c1, c2, rfl⟩⟩; refine ⟨rfl, ?_⟩; conv => whnf)
    | (refine CallX.of (s33 n L hL _ ?_ ?_ [1, 5] ?_ ?_) [(1000000, 1000000)] rfl ⟨SV.le_refl _, SV.le_lit rfl rfl, trivial⟩ ⟨Res.le_refl _, trivial⟩ rfl rfl ?_; rotate_right; rintro x rout ⟨⟨u3, hu3, rfl⟩, ⟨c, c1, c2, rfl⟩⟩; refine ⟨rfl, ?_⟩; conv => whnf)
    | (refine CallX.of (s84 n L hL _ ?_ ?_ _ ?_) [(1000000, 1000000)] rfl ⟨SV.le_refl _, SV.le_refl _, trivial⟩ ⟨Res.le_refl _, trivial⟩ rfl rfl ?_; rotate_right; rintro x rout ⟨⟨f, rfl⟩, ⟨c, c1, c2, rfl⟩⟩; refine ⟨rfl, ?_⟩; conv => whnf)
    | (refine CallX.of (s86 n L hL _ ?_ ?_ _ ?_) [(1000000, 1000000)] rfl ⟨SV.le_refl _, SV.le_refl _, trivial⟩ ⟨Res.le_refl _, trivial⟩ rfl rfl ?_; rotate_right; rintro x rout ⟨⟨j, hj1, hj2, hj3, rfl⟩, ⟨c, c1, c2, rfl⟩⟩; refine ⟨rfl, ?_⟩; conv => whnf)
    | (refine CallX.of (s104 n L hL _ ?_ ?_ 1 4 ?_ ?_ ?_) [(1000000, 1000000)] rfl ⟨SV.le_refl _, SV.le_refl _, SV.le_refl _, trivial⟩ ⟨Res.le_refl _, trivial⟩ rfl rfl ?_; rotate_right; rintro x rout ⟨⟨u4, hk1, hk2, rfl⟩, ⟨c, c1, c2, rfl⟩⟩; refine ⟨rfl, ?_⟩; conv => whnf)
    | (refine CallX.of (s104 n L hL _ ?_ ?_ 1 2000 ?_ ?_ ?_) [(1000000, 1000000)] rfl ⟨SV.le_refl _, SV.le_refl _, SV.le_refl _, trivial⟩ ⟨Res.le_refl _, trivial⟩ rfl rfl ?_; rotate_right; rintro x rout ⟨⟨u5, hk3, hk4, rfl⟩, ⟨c, c1, c2, rfl⟩⟩; refine ⟨rfl, ?_⟩; conv => whnf)
    | (refine CallX.of (s104 n L hL _ ?_ ?_ 0 1000000 ?_ ?_ ?_) [(1000000, 1000000)] rfl ⟨SV.le_refl _, SV.le_refl _, SV.le_refl _, trivial⟩ ⟨Res.le_refl _, trivial⟩ rfl rfl ?_; rotate_right; rintro x rout ⟨⟨u6, hk5, hk6, rfl⟩, ⟨c, c1, c2, rfl⟩⟩; refine ⟨rfl, ?_⟩; conv => whnf)
    | (refine CallX.of (s64 n L hL _ ?_ ?_ 0 4 ?_ ?_ ?_ ?_) [(1000000, 1000000)] rfl ⟨SV.le_refl _, SV.le_refl _, SV.le_refl _, trivial⟩ ⟨Res.le_refl _, trivial⟩ rfl rfl ?_; rotate_right; rintro x rout ⟨⟨u7, hk7, hk8, rfl⟩, ⟨c, c1, c2, rfl⟩⟩; refine ⟨rfl, ?_⟩; conv => whnf)
    | (refine SliceX.freeze 255 3 _ _ rfl ?_; conv => whnf)
    | (refine br_intro (fun hb => ?_) (fun hb => ?_) <;> (try simp only [decide_eq_true_eq, decide_eq_false_iff_not, Bool.not_eq_true', Bool.not_eq_false', Bool.and_eq_true, Bool.or_eq_true, beq_iff_eq, not_and, Int.not_le, Int.not_lt, Int.toNat_natCast, beq_eq_false_iff_ne, ne_eq, eq_self, not_true_eq_false, not_false_eq_true] at hb) <;> (conv => whnf))
    | omega
    | (refine And.intro ?_ ?_; ((try dsimp only); first | omega | (refine ⟨by omega, by omega, Int.le_trans (Int.mul_le_mul_of_nonneg_right (Int.ofNat_le.2 (Nat.le_of_ble_eq_true (rfl : Nat.ble _ 1024 = true))) (by omega)) (by omega), by omega⟩) | (refine Nat.le_trans (Nat.mul_le_mul_left _ (Nat.le_of_ble_eq_true (rfl : Nat.ble _ 1024 = true))) ?_; omega) | (unfold inI64; omega) | (constructor <;> omega) | (simp only [inI64, List.length_cons, List.length_append, List.length_nil, List.length_set] at *; omega) | decide | (unfold inI64; decide)); conv => whnf)
    | omega | decide | assumption)
  · have hj : j = 0 ∨ j = 1 ∨ j = 2 ∨ j = 3 := by omega
    rcases hj with rfl | rfl | rfl | rfl
    all_goals
      conv => whnf
      repeat' (first
        | (refine CallX.of (s104 n L hL _ ?_ ?_ 1 4 ?_ ?_ ?_) [(1000000, 1000000)] rfl ⟨SV.le_refl _, SV.le_refl _, SV.le_refl _, trivial⟩ ⟨Res.le_refl _, trivial⟩ rfl rfl ?_; rotate_right; rintro x rout ⟨⟨u4, hk1, hk2, rfl⟩, ⟨c, c1, c2, rfl⟩⟩; refine ⟨rfl, ?_⟩; conv => whnf)
        | (refine CallX.of (s104 n L hL _ ?_ ?_ 1 2000 ?_ ?_ ?_) [(1000000, 1000000)] rfl ⟨SV.le_refl _, SV.le_refl _, SV.le_refl _, trivial⟩ ⟨Res.le_refl _, trivial⟩ rfl rfl ?_; rotate_right; rintro x rout ⟨⟨u5, hk3, hk4, rfl⟩, ⟨c, c1, c2, rfl⟩⟩; refine ⟨rfl, ?_⟩; conv => whnf)
        | (refine CallX.of (s104 n L hL _ ?_ ?_ 0 1000000 ?_ ?_ ?_) [(1000000, 1000000)] rfl ⟨SV.le_refl _, SV.le_refl _, SV.le_refl _, trivial⟩ ⟨Res.le_refl _, trivial⟩ rfl rfl ?_; rotate_right; rintro x rout ⟨⟨u6, hk5, hk6, rfl⟩, ⟨c, c1, c2, rfl⟩⟩; refine ⟨rfl, ?_⟩; conv => whnf)
        | (refine CallX.of (s64 n L hL _ ?_ ?_ 0 4 ?_ ?_ ?_ ?_) [(1000000, 1000000)] rfl ⟨SV.le_refl _, SV.le_refl _, SV.le_refl _, trivial⟩ ⟨Res.le_refl _, trivial⟩ rfl rfl ?_; rotate_right; rintro x rout ⟨⟨u7, hk7, hk8, rfl⟩, ⟨c, c1, c2, rfl⟩⟩; refine ⟨rfl, ?_⟩; conv => whnf)
        | (refine SliceX.freeze 255 3 _ _ rfl ?_; conv => whnf)
        | (refine br_intro (fun hb => ?_) (fun hb => ?_) <;> (try simp only [decide_eq_true_eq, decide_eq_false_iff_not, Bool.not_eq_true', Bool.not_eq_false', Bool.and_eq_true, Bool.or_eq_true, beq_iff_eq, not_and, Int.not_le, Int.not_lt, Int.toNat_natCast, beq_eq_false_iff_ne, ne_eq, eq_self, not_true_eq_false, not_false_eq_true] at hb) <;> (conv => whnf))
        | omega
        | (refine And.intro ?_ ?_; ((try dsimp only); first | omega | (refine ⟨by omega, by omega, Int.le_trans (Int.mul_le_mul_of_nonneg_right (Int.ofNat_le.2 (Nat.le_of_ble_eq_true (rfl : Nat.ble _ 1024 = true))) (by omega)) (by omega), by omega⟩) | (refine Nat.le_trans (Nat.mul_le_mul_left _ (Nat.le_of_ble_eq_true (rfl : Nat.ble _ 1024 = true))) ?_; omega) | (unfold inI64; omega) | (constructor <;> omega) | (simp only [inI64, List.length_cons, List.length_append, List.length_nil, List.length_set] at *; omega) | decide | (unfold inI64; decide)); conv => whnf)
        | omega | decide | assumption)
      refine .weak _ ?_
      (conv => whnf)
      refine ⟨_, [(1000000, strm n L _)], SV.le_take (f := reF) (d := re0) (rows_updG (reLit_rows u1 u2 u3) (fun _ : Rep => (⟨u4, u5, u6⟩ : Rep)) (fun _ => rfl)) (by simp [reLit]; omega), ⟨⟨_, ?_, rfl⟩, _, by omega, by omega, rfl⟩, Res.le_refl _, trivial⟩
      simp [reLit]
      omega
  · refine .weak _ ?_
    (conv => whnf)
    exact ⟨_, [(1000000, strm n L _)], SV.le_take (l := reLit u1 u2 u3) (reLit_rows u1 u2 u3) (by show (u7 - 0).toNat ≤ 4; omega), ⟨⟨_, by simp [reLit]; omega, rfl⟩, _, by omega, by omega, rfl⟩, Res.le_refl _, trivial⟩
end Go.Proofs.YtnkdlkgannnfhaaGreatDoor
set_option maxRecDepth 20000
namespace Go.Proofs.YtnkdlkgannnfhaaGreatDoor
open Go Go.Eng
theorem toI_set (o : List Nat) (i x : Nat) : toI (o.set i x) = (toI o).set i (x : Int) := by simp [toI, List.map_set]
theorem toI_getX {o : List Nat} {i : Nat} (h : i < o.length) : (toI o).getD i 0 = ((o.getD i 0 : Nat) : Int) := toI_get h
theorem setN_get {o : List Nat} {i k x : Nat} (hi : i < o.length) : (o.set i x).getD k 0 = if k = i then x else o.getD k 0 := by
  rw [List.getD_eq_getElem?_getD, List.getElem?_set]
  by_cases h : i = k
  · subst h; simp [hi]
  · rw [if_neg h, if_neg (fun e => h e.symm), List.getD_eq_getElem?_getD]
abbrev lowO (r : Rul) (l : List Mrk) (o : List Nat) (t i k : Nat) : Prop := o.length = l.length ∧ lowI l.length (joinB r l) (fun x => o.getD x 0) t i k
theorem lowO_put {r : Rul} {l : List Mrk} {o : List Nat} {t i k : Nat} (h : lowO r l o t i k) (hi : i < l.length) (hk : k < l.length) (hJ : joinB r l i k = true) : lowO r l (o.set i (min (o.getD i 0) (o.getD k 0))) t i (k + 1) := by
  have hlen := h.1
  refine ⟨by rw [List.length_set]; exact h.1, h.2.put hi hk hJ ?_ (fun x hx => ?_)⟩
  · show (o.set i (min (o.getD i 0) (o.getD k 0))).getD i 0 = min (o.getD i 0) (o.getD k 0)
    rw [setN_get (by omega), if_pos rfl]
  · show (o.set i (min (o.getD i 0) (o.getD k 0))).getD x 0 = o.getD x 0
    rw [setN_get (by omega), if_neg hx]
def ofI (o : List Nat) (i k : Nat) : List Int := toI ((List.range k).filter fun x => o.getD x 0 == i)
theorem ofI_succ (o : List Nat) (i k : Nat) : ofI o i (k + 1) = if o.getD k 0 = i then ofI o i k ++ [(k : Int)] else ofI o i k := by
  unfold ofI
  rw [List.range_succ, List.filter_append]
  by_cases h : o.getD k 0 = i
  · rw [if_pos h, List.filter_cons_of_pos (p := fun x => o.getD x 0 == i) (by simpa using h), toI]
    simp [toI]
  · rw [if_neg h, List.filter_cons_of_neg (p := fun x => o.getD x 0 == i) (by simpa using h)]; simp
theorem ofI_len (o : List Nat) (i k : Nat) : (ofI o i k).length ≤ k := by
  unfold ofI; rw [toI_len]; exact Nat.le_trans (List.length_filter_le _ _) (by simp)
theorem ofI_end {r : Rul} {l : List Mrk} {o : List Nat} (h : isLab l.length (joinB r l) (fun x => o.getD x 0)) (i : Nat) : ofI o i l.length = grpI r l i := by
  unfold ofI grpI
  congr 1
  exact h.grp (labM_lab r l) i
theorem grI_step (r : Rul) (l : List Mrk) (i : Nat) : grI r l (i + 1) = if grpI r l i = [] then grI r l i else grI r l i ++ [grpI r l i] := by
  unfold grI grpI
  rw [grpsF]
  by_cases h : grpF l.length (labM r l) i = []
  · rw [if_pos h, if_pos (by rw [h]; rfl)]
  · rw [if_neg h, if_neg (fun q => h (by cases hg : grpF l.length (labM r l) i with
      | nil => rfl
      | cons x g => rw [hg] at q; cases q)), List.map_append]; rfl
-- GroupsOf
set_option maxHeartbeats 4000000 in
theorem z93 (r : Rul) (l : List Mrk) (hr : rBd r) (hl60 : l.length ≤ 60) (hl : ∀ i, i < l.length → mBd (l.getD i mk0)) : FSpec Tryz.prog 93 [.agg ((ruF r).map .d), .d (mrks l)] [] (fun y r' => y = .d (grs (grI r l l.length)) ∧ r' = []) := by
  have hjj := sq_bd (x := r.join) (by unfold rBd at hr; omega) (by unfold rBd at hr; omega)
  refine spec_of hT (C := []) Tryz.func93 rfl Tryz.call93 rfl rfl rfl ?_
  conv => whnf
  repeat' (first
    | (refine br_intro (fun hb => ?_) (fun hb => ?_) <;> (try simp only [decide_eq_true_eq, decide_eq_false_iff_not, Bool.not_eq_true', Bool.not_eq_false', Bool.and_eq_true, Bool.or_eq_true, beq_iff_eq, not_and, Int.not_le, Int.not_lt, Int.toNat_natCast, beq_eq_false_iff_ne, ne_eq, eq_self, not_true_eq_false, not_false_eq_true] at hb) <;> (conv => whnf))
    | (refine RegX.rule (id := 15) hT rfl [] [(0, []), (1, []), (2, [0, 1]), (3, [0, 1]), (4, []), (5, []), (6, []), (7, [6]), (9, [6, 7]), (10, [6, 7]), (11, [6, 7, 9, 10]), (12, [6, 7, 9, 10]), (13, [6, 7]), (8, [9, 10, 11, 12, 13]), (14, []), (15, [])] (by decide +kernel) ?_; conv => whnf)
    | (refine RegX.rule (id := 16) hT rfl [] [(0, []), (1, [0]), (2, [0, 1]), (3, [0, 1, 2]), (4, [0, 1]), (5, [0, 1]), (6, [0, 1, 2, 3, 4, 5]), (7, [0, 1, 2, 3, 4, 5, 6]), (8, [0, 1, 2, 3, 4, 5]), (9, [0, 1, 2, 3, 4, 5]), (10, [0, 1]), (11, []), (12, [])] (by decide +kernel) ?_; conv => whnf)
    | omega
    | (refine And.intro ?_ ?_; ((try dsimp only); first | omega | (refine ⟨by omega, by omega, Int.le_trans (Int.mul_le_mul_of_nonneg_right (Int.ofNat_le.2 (Nat.le_of_ble_eq_true (rfl : Nat.ble _ 1024 = true))) (by omega)) (by omega), by omega⟩) | (refine Nat.le_trans (Nat.mul_le_mul_left _ (Nat.le_of_ble_eq_true (rfl : Nat.ble _ 1024 = true))) ?_; omega) | (unfold inI64; omega) | (constructor <;> omega) | (simp only [inI64, List.length_cons, List.length_append, List.length_nil, List.length_set] at *; omega) | decide | (unfold inI64; decide)); conv => whnf)
    | omega | decide | assumption)
  refine LoopX.rule hT (C := []) (ι := Nat × List Nat) (fun (i, o) => i ≤ l.length ∧ o.length = l.length ∧ ∀ x, x < i → o.getD x 0 = x) (fun (i, o) => mkSt [(1, .d (mrks l)), (2, .ptr 2 0), (5, .buf 5), (20, .d (.int .i64 l.length)), (21, .d (.int .i64 i))]
    [(2, .cells 76 ((ruF r).map .d)), (5, seqB 3 1 iF 0 (toI o))]) (fun (i, _) => l.length - i) (0, List.replicate l.length 0) ⟨by simp, by simp, fun x hx => by omega⟩ ?_ ?_
  · refine Entails.mk' [(2, 2), (5, 18)] rfl rfl ⟨SV.le_refl _, SV.le_refl _, SV.le_refl _, SV.le_refl _, SV.le_refl _, trivial⟩ ⟨Res.le_refl _, Res.le_buf (by simp [toI]) (fun i hi => ?_), trivial⟩
    have hi' : i < l.length := by simpa using hi
    simp only [rowF]
    rw [toI_get (by simpa using hi'), List.getD_eq_getElem?_getD]; simp [hi']; rfl
  rintro ⟨i, o⟩ ⟨p1, p2, p3⟩
  have p1 : i ≤ l.length := p1
  have p2 : o.length = l.length := p2
  have htl := toI_len o
  have e1 : (i : Int).toNat = i := Int.toNat_natCast i
  conv => whnf
  repeat' (first
    | (refine br_intro (fun hb => ?_) (fun hb => ?_) <;> (try simp only [decide_eq_true_eq, decide_eq_false_iff_not, Bool.not_eq_true', Bool.not_eq_false', Bool.and_eq_true, Bool.or_eq_true, beq_iff_eq, not_and, Int.not_le, Int.not_lt, Int.toNat_natCast, beq_eq_false_iff_ne, ne_eq, eq_self, not_true_eq_false, not_false_eq_true] at hb) <;> (conv => whnf))
    | (refine RegX.rule (id := 15) hT rfl [] [(0, []), (1, []), (2, [0, 1]), (3, [0, 1]), (4, []), (5, []), (6, []), (7, [6]), (9, [6, 7]), (10, [6, 7]), (11, [6, 7, 9, 10]), (12, [6, 7, 9, 10]), (13, [6, 7]), (8, [9, 10, 11, 12, 13]), (14, []), (15, [])] (by decide +kernel) ?_; conv => whnf)
    | (refine RegX.rule (id := 16) hT rfl [] [(0, []), (1, [0]), (2, [0, 1]), (3, [0, 1, 2]), (4, [0, 1]), (5, [0, 1]), (6, [0, 1, 2, 3, 4, 5]), (7, [0, 1, 2, 3, 4, 5, 6]), (8, [0, 1, 2, 3, 4, 5]), (9, [0, 1, 2, 3, 4, 5]), (10, [0, 1]), (11, []), (12, [])] (by decide +kernel) ?_; conv => whnf)
    | omega
    | (refine And.intro ?_ ?_; ((try dsimp only); first | omega | (refine ⟨by omega, by omega, Int.le_trans (Int.mul_le_mul_of_nonneg_right (Int.ofNat_le.2 (Nat.le_of_ble_eq_true (rfl : Nat.ble _ 1024 = true))) (by omega)) (by omega), by omega⟩) | (refine Nat.le_trans (Nat.mul_le_mul_left _ (Nat.le_of_ble_eq_true (rfl : Nat.ble _ 1024 = true))) ?_; omega) | (unfold inI64; omega) | (constructor <;> omega) | (simp only [inI64, List.length_cons, List.length_append, List.length_nil, List.length_set] at *; omega) | decide | (unfold inI64; decide)); conv => whnf)
    | omega | decide | assumption)
  · refine ⟨(i + 1, o.set i i), ⟨by omega, by simp [p2], fun x hx => ?_⟩, (show l.length - (i + 1) < l.length - i by omega), ?_⟩
    · rw [setN_get (by omega)]
      split
      · rename_i q; exact q.symm
      · exact p3 x (by omega)
    · show Entails _ (mkSt _ [(2, .cells 76 ((ruF r).map .d)), (5, seqB 3 1 iF 0 (toI (o.set i i)))])
      rw [toI_set]
      exact Entails.mk' [(2, 2), (5, 5)] rfl rfl ⟨SV.le_refl _, SV.le_refl _, SV.le_refl _, SV.le_refl _, SV.le_refl _, trivial⟩ ⟨Res.le_refl _, Res.le_upd (fun _ => (i : Int)) (fun _ => rfl), trivial⟩
  have hi : i = l.length := by omega
  have hst : lowO r l o 0 0 0 := ⟨p2, lowI.start (fun x hx => p3 x (by omega))⟩
  refine LoopX.rule hT (C := []) (ι := Nat × List Nat) (fun (t, o) => t ≤ l.length ∧ lowO r l o t 0 0) (fun (t, o) => mkSt [(1, .d (mrks l)), (2, .ptr 2 0), (5, .buf 5), (30, .d (.int .i64 l.length)), (31, .d (.int .i64 t))]
    [(2, .cells 76 ((ruF r).map .d)), (5, seqB 3 1 iF 0 (toI o))]) (fun (t, _) => l.length - t) (0, o) ⟨by simp, hst⟩ (by refine Entails.mk' [(2, 2), (5, 5)] rfl rfl ?_ ?_ <;> repeat' (first | exact True.intro | exact SV.le_refl _ | exact Res.le_refl _ | exact SV.le_int (by omega) | exact SV.le_any _ | refine And.intro ?_ ?_)) ?_
  rintro ⟨t, o⟩ ⟨t1, t2⟩
  have t1 : t ≤ l.length := t1
  conv => whnf
  repeat' (first
    | (refine br_intro (fun hb => ?_) (fun hb => ?_) <;> (try simp only [decide_eq_true_eq, decide_eq_false_iff_not, Bool.not_eq_true', Bool.not_eq_false', Bool.and_eq_true, Bool.or_eq_true, beq_iff_eq, not_and, Int.not_le, Int.not_lt, Int.toNat_natCast, beq_eq_false_iff_ne, ne_eq, eq_self, not_true_eq_false, not_false_eq_true] at hb) <;> (conv => whnf))
    | (refine RegX.rule (id := 15) hT rfl [] [(0, []), (1, []), (2, [0, 1]), (3, [0, 1]), (4, []), (5, []), (6, []), (7, [6]), (9, [6, 7]), (10, [6, 7]), (11, [6, 7, 9, 10]), (12, [6, 7, 9, 10]), (13, [6, 7]), (8, [9, 10, 11, 12, 13]), (14, []), (15, [])] (by decide +kernel) ?_; conv => whnf)
    | (refine RegX.rule (id := 16) hT rfl [] [(0, []), (1, [0]), (2, [0, 1]), (3, [0, 1, 2]), (4, [0, 1]), (5, [0, 1]), (6, [0, 1, 2, 3, 4, 5]), (7, [0, 1, 2, 3, 4, 5, 6]), (8, [0, 1, 2, 3, 4, 5]), (9, [0, 1, 2, 3, 4, 5]), (10, [0, 1]), (11, []), (12, [])] (by decide +kernel) ?_; conv => whnf)
    | omega
    | (refine And.intro ?_ ?_; ((try dsimp only); first | omega | (refine ⟨by omega, by omega, Int.le_trans (Int.mul_le_mul_of_nonneg_right (Int.ofNat_le.2 (Nat.le_of_ble_eq_true (rfl : Nat.ble _ 1024 = true))) (by omega)) (by omega), by omega⟩) | (refine Nat.le_trans (Nat.mul_le_mul_left _ (Nat.le_of_ble_eq_true (rfl : Nat.ble _ 1024 = true))) ?_; omega) | (unfold inI64; omega) | (constructor <;> omega) | (simp only [inI64, List.length_cons, List.length_append, List.length_nil, List.length_set] at *; omega) | decide | (unfold inI64; decide)); conv => whnf)
    | omega | decide | assumption)
  · refine LoopX.rule hT (C := []) (ι := Nat × List Nat) (fun (i, o) => i ≤ l.length ∧ lowO r l o t i 0) (fun (i, o) => mkSt [(1, .d (mrks l)), (2, .ptr 2 0), (5, .buf 5), (30, .d (.int .i64 l.length)), (31, .d (.int .i64 t)), (33, .d (mrks l)), (34, .d (.int .i64 l.length)), (35, .d (.int .i64 i))]
      [(2, .cells 76 ((ruF r).map .d)), (5, seqB 3 1 iF 0 (toI o))]) (fun (i, _) => l.length - i) (0, o) ⟨by simp, t2⟩ (by refine Entails.mk' [(2, 2), (5, 5)] rfl rfl ?_ ?_ <;> repeat' (first | exact True.intro | exact SV.le_refl _ | exact Res.le_refl _ | exact SV.le_int (by omega) | exact SV.le_any _ | refine And.intro ?_ ?_)) ?_
    rintro ⟨i, o⟩ ⟨i1, i2⟩
    have i1 : i ≤ l.length := i1
    have e1 : (i : Int).toNat = i := Int.toNat_natCast i
    conv => whnf
    repeat' (first
      | (refine br_intro (fun hb => ?_) (fun hb => ?_) <;> (try simp only [decide_eq_true_eq, decide_eq_false_iff_not, Bool.not_eq_true', Bool.not_eq_false', Bool.and_eq_true, Bool.or_eq_true, beq_iff_eq, not_and, Int.not_le, Int.not_lt, Int.toNat_natCast, beq_eq_false_iff_ne, ne_eq, eq_self, not_true_eq_false, not_false_eq_true] at hb) <;> (conv => whnf))
      | (refine RegX.rule (id := 15) hT rfl [] [(0, []), (1, []), (2, [0, 1]), (3, [0, 1]), (4, []), (5, []), (6, []), (7, [6]), (9, [6, 7]), (10, [6, 7]), (11, [6, 7, 9, 10]), (12, [6, 7, 9, 10]), (13, [6, 7]), (8, [9, 10, 11, 12, 13]), (14, []), (15, [])] (by decide +kernel) ?_; conv => whnf)
      | (refine RegX.rule (id := 16) hT rfl [] [(0, []), (1, [0]), (2, [0, 1]), (3, [0, 1, 2]), (4, [0, 1]), (5, [0, 1]), (6, [0, 1, 2, 3, 4, 5]), (7, [0, 1, 2, 3, 4, 5, 6]), (8, [0, 1, 2, 3, 4, 5]), (9, [0, 1, 2, 3, 4, 5]), (10, [0, 1]), (11, []), (12, [])] (by decide +kernel) ?_; conv => whnf)
      | omega
      | (refine And.intro ?_ ?_; ((try dsimp only); first | omega | (refine ⟨by omega, by omega, Int.le_trans (Int.mul_le_mul_of_nonneg_right (Int.ofNat_le.2 (Nat.le_of_ble_eq_true (rfl : Nat.ble _ 1024 = true))) (by omega)) (by omega), by omega⟩) | (refine Nat.le_trans (Nat.mul_le_mul_left _ (Nat.le_of_ble_eq_true (rfl : Nat.ble _ 1024 = true))) ?_; omega) | (unfold inI64; omega) | (constructor <;> omega) | (simp only [inI64, List.length_cons, List.length_append, List.length_nil, List.length_set] at *; omega) | decide | (unfold inI64; decide)); conv => whnf)
      | omega | decide | assumption)
    · have hi : i < l.length := by omega
      refine LoopX.rule hT (C := []) (ι := Nat × List Nat) (fun (k, o) => k ≤ l.length ∧ lowO r l o t i k) (fun (k, o) => mkSt [(1, .d (mrks l)), (2, .ptr 2 0), (5, .buf 5), (7, .d (.int .i64 i)), (8, .ptr 8 0), (30, .d (.int .i64 l.length)), (31, .d (.int .i64 t)), (33, .d (mrks l)), (34, .d (.int .i64 l.length)), (35, .d (.int .i64 i)), (40, .d (mrks l)), (41, .d (.int .i64 l.length)), (42, .d (.int .i64 k))]
        [(2, .cells 76 ((ruF r).map .d)), (5, seqB 3 1 iF 0 (toI o)), (8, mcell (l.getD i mk0))]) (fun (k, _) => l.length - k) (0, o) ⟨by simp, i2⟩ (by refine Entails.mk' [(2, 2), (5, 5), (8, 8)] rfl rfl ?_ ?_ <;> repeat' (first | exact True.intro | exact SV.le_refl _ | exact Res.le_refl _ | exact SV.le_int (by omega) | exact SV.le_any _ | refine And.intro ?_ ?_)) ?_
      rintro ⟨k, o⟩ ⟨k1, k2⟩
      have k1 : k ≤ l.length := k1
      have hol : o.length = l.length := k2.1
      have htl := toI_len o
      have e2 : (k : Int).toNat = k := Int.toNat_natCast k
      have h152 := fun (hk : k < l.length) => z152 (l.getD i mk0) (l.getD k mk0) (hl i hi) (hl k hk)
      have hJ : joinB r l i k = ((l.getD i mk0).pan == (l.getD k mk0).pan && decide (distM (l.getD i mk0) (l.getD k mk0) ≤ r.join * r.join)) := rfl
      conv => whnf
      repeat' (first
        | (refine CallX.exact (h152 (by omega)) rfl rfl ?_; rotate_right; conv => whnf)
        | (refine br_intro (fun hb => ?_) (fun hb => ?_) <;> (try simp only [decide_eq_true_eq, decide_eq_false_iff_not, Bool.not_eq_true', Bool.not_eq_false', Bool.and_eq_true, Bool.or_eq_true, beq_iff_eq, not_and, Int.not_le, Int.not_lt, Int.toNat_natCast, beq_eq_false_iff_ne, ne_eq, eq_self, not_true_eq_false, not_false_eq_true] at hb) <;> (conv => whnf))
        | (refine RegX.rule (id := 15) hT rfl [] [(0, []), (1, []), (2, [0, 1]), (3, [0, 1]), (4, []), (5, []), (6, []), (7, [6]), (9, [6, 7]), (10, [6, 7]), (11, [6, 7, 9, 10]), (12, [6, 7, 9, 10]), (13, [6, 7]), (8, [9, 10, 11, 12, 13]), (14, []), (15, [])] (by decide +kernel) ?_; conv => whnf)
        | (refine RegX.rule (id := 16) hT rfl [] [(0, []), (1, [0]), (2, [0, 1]), (3, [0, 1, 2]), (4, [0, 1]), (5, [0, 1]), (6, [0, 1, 2, 3, 4, 5]), (7, [0, 1, 2, 3, 4, 5, 6]), (8, [0, 1, 2, 3, 4, 5]), (9, [0, 1, 2, 3, 4, 5]), (10, [0, 1]), (11, []), (12, [])] (by decide +kernel) ?_; conv => whnf)
        | omega
        | (refine And.intro ?_ ?_; ((try dsimp only); first | omega | (refine ⟨by omega, by omega, Int.le_trans (Int.mul_le_mul_of_nonneg_right (Int.ofNat_le.2 (Nat.le_of_ble_eq_true (rfl : Nat.ble _ 1024 = true))) (by omega)) (by omega), by omega⟩) | (refine Nat.le_trans (Nat.mul_le_mul_left _ (Nat.le_of_ble_eq_true (rfl : Nat.ble _ 1024 = true))) ?_; omega) | (unfold inI64; omega) | (constructor <;> omega) | (simp only [inI64, List.length_cons, List.length_append, List.length_nil, List.length_set] at *; omega) | decide | (unfold inI64; decide)); conv => whnf)
        | omega | decide | assumption)
      all_goals first
        | (have hk : k < l.length := by omega
           have hjt : joinB r l i k = true := by rw [hJ]; clear k2 i2 t2 hst; grind
           have hmin : ((min (o.getD i 0) (o.getD k 0) : Nat) : Int) = min ((toI o).getD i 0) ((toI o).getD k 0) := by
             rw [toI_getX (by omega), toI_getX (by omega)]; omega
           refine ⟨(k + 1, o.set i (min (o.getD i 0) (o.getD k 0))), ⟨by omega, lowO_put k2 hi hk hjt⟩, (show l.length - (k + 1) < l.length - k by omega), ?_⟩
           show Entails _ (mkSt _ [(2, .cells 76 ((ruF r).map .d)), (5, seqB 3 1 iF 0 (toI (o.set i (min (o.getD i 0) (o.getD k 0))))), (8, mcell (l.getD i mk0))])
           rw [toI_set, hmin]
           exact Entails.mk' [(2, 2), (5, 5), (8, 8)] rfl rfl ⟨SV.le_refl _, SV.le_refl _, SV.le_refl _, SV.le_refl _, SV.le_refl _, SV.le_refl _, SV.le_refl _, SV.le_refl _, SV.le_refl _, SV.le_refl _, SV.le_refl _, SV.le_refl _, SV.le_refl _, trivial⟩ ⟨Res.le_refl _, Res.le_upd (fun _ => min ((toI o).getD i 0) ((toI o).getD k 0)) (fun _ => rfl), Res.le_refl _, trivial⟩)
        | (have hk : k < l.length := by omega
           have hjf : joinB r l i k = false := by rw [hJ]; clear k2 i2 t2 hst; grind
           exact ⟨(k + 1, o), ⟨by omega, k2.1, k2.2.skip hjf⟩, (show l.length - (k + 1) < l.length - k by omega), Entails.mk' [(2, 2), (5, 5), (8, 8)] rfl rfl ⟨SV.le_refl _, SV.le_refl _, SV.le_refl _, SV.le_refl _, SV.le_refl _, SV.le_refl _, SV.le_refl _, SV.le_refl _, SV.le_refl _, SV.le_refl _, SV.le_refl _, SV.le_refl _, SV.le_refl _, trivial⟩ ⟨Res.le_refl _, Res.le_refl _, Res.le_refl _, trivial⟩⟩)
        | (have hk : k = l.length := by omega
           subst hk
           exact ⟨(i + 1, o), ⟨by omega, k2.1, k2.2.next hi⟩, (show l.length - (i + 1) < l.length - i by omega), Entails.mk' [(2, 2), (5, 5)] rfl rfl ⟨SV.le_refl _, SV.le_refl _, SV.le_refl _, SV.le_refl _, SV.le_refl _, SV.le_refl _, SV.le_refl _, SV.le_refl _, trivial⟩ ⟨Res.le_refl _, Res.le_refl _, trivial⟩⟩)
    · have hi : i = l.length := by omega
      subst hi
      exact ⟨(t + 1, o), ⟨by omega, i2.1, i2.2.round⟩, (show l.length - (t + 1) < l.length - t by omega), Entails.mk' [(2, 2), (5, 5)] rfl rfl ⟨SV.le_refl _, SV.le_refl _, SV.le_refl _, SV.le_refl _, SV.le_refl _, trivial⟩ ⟨Res.le_refl _, Res.le_refl _, trivial⟩⟩
  · have ht : t = l.length := by omega
    subst ht
    have hlab := t2.2.lab
    have hol : o.length = l.length := t2.1
    have htl := toI_len o
    refine LoopX.rule hT (C := []) (ι := Nat) (fun i => i ≤ l.length) (fun i => mkSt [(5, .buf 5), (11, .buf 11), (79, .d (.int .i64 l.length)), (80, .d (.int .i64 i))] [(5, seqB 3 1 iF 0 (toI o)), (11, grsB (grI r l i))]) (fun i => l.length - i) 0 (by omega) ?_ ?_
    · exact (Entails.nil 11 11 22 1 (rowF grF [] []) rfl rfl (by decide)).trans (by refine Entails.mk' [(5, 5), (11, 11)] rfl rfl ?_ ?_ <;> repeat' (first | exact True.intro | exact SV.le_refl _ | exact Res.le_refl _ | exact SV.le_int (by omega) | exact SV.le_any _ | refine And.intro ?_ ?_))
    rintro i i1
    have e1 : (i : Int).toNat = i := Int.toNat_natCast i
    have hgl := grI_len r l i
    have hgs := grI_step r l i
    conv => whnf
    repeat' (first
      | (refine br_intro (fun hb => ?_) (fun hb => ?_) <;> (try simp only [decide_eq_true_eq, decide_eq_false_iff_not, Bool.not_eq_true', Bool.not_eq_false', Bool.and_eq_true, Bool.or_eq_true, beq_iff_eq, not_and, Int.not_le, Int.not_lt, Int.toNat_natCast, beq_eq_false_iff_ne, ne_eq, eq_self, not_true_eq_false, not_false_eq_true] at hb) <;> (conv => whnf))
      | (refine RegX.rule (id := 15) hT rfl [] [(0, []), (1, []), (2, [0, 1]), (3, [0, 1]), (4, []), (5, []), (6, []), (7, [6]), (9, [6, 7]), (10, [6, 7]), (11, [6, 7, 9, 10]), (12, [6, 7, 9, 10]), (13, [6, 7]), (8, [9, 10, 11, 12, 13]), (14, []), (15, [])] (by decide +kernel) ?_; conv => whnf)
      | (refine RegX.rule (id := 16) hT rfl [] [(0, []), (1, [0]), (2, [0, 1]), (3, [0, 1, 2]), (4, [0, 1]), (5, [0, 1]), (6, [0, 1, 2, 3, 4, 5]), (7, [0, 1, 2, 3, 4, 5, 6]), (8, [0, 1, 2, 3, 4, 5]), (9, [0, 1, 2, 3, 4, 5]), (10, [0, 1]), (11, []), (12, [])] (by decide +kernel) ?_; conv => whnf)
      | omega
      | (refine And.intro ?_ ?_; ((try dsimp only); first | omega | (refine ⟨by omega, by omega, Int.le_trans (Int.mul_le_mul_of_nonneg_right (Int.ofNat_le.2 (Nat.le_of_ble_eq_true (rfl : Nat.ble _ 1024 = true))) (by omega)) (by omega), by omega⟩) | (refine Nat.le_trans (Nat.mul_le_mul_left _ (Nat.le_of_ble_eq_true (rfl : Nat.ble _ 1024 = true))) ?_; omega) | (unfold inI64; omega) | (constructor <;> omega) | (simp only [inI64, List.length_cons, List.length_append, List.length_nil, List.length_set] at *; omega) | decide | (unfold inI64; decide)); conv => whnf)
      | omega | decide | assumption)
    · refine LoopX.rule hT (C := []) (ι := Nat) (fun k => k ≤ l.length) (fun k => mkSt [(5, .buf 5), (11, .buf 11), (12, .d (.int .i64 i)), (13, .buf 13), (79, .d (.int .i64 l.length)), (80, .d (.int .i64 i)), (83, .buf 5), (84, .d (.int .i64 (toI o).length)), (85, .d (.int .i64 k))]
        [(5, seqB 3 1 iF 0 (toI o)), (11, grsB (grI r l i)), (13, seqB 3 1 iF 0 (ofI o i k))]) (fun k => l.length - k) 0 (by omega) ?_ ?_
      · exact (Entails.nil 13 13 3 1 (rowF iF 0 []) rfl rfl (by decide)).trans (by refine Entails.mk' [(5, 5), (11, 11), (13, 13)] rfl rfl ?_ ?_ <;> repeat' (first | exact True.intro | exact SV.le_refl _ | exact Res.le_refl _ | exact SV.le_int (by omega) | exact SV.le_any _ | refine And.intro ?_ ?_))
      rintro k k1
      have e2 : (k : Int).toNat = k := Int.toNat_natCast k
      have hos := ofI_succ o i k
      have hofl := ofI_len o i k
      have hgk := fun (h : k < o.length) => toI_getX h
      conv => whnf
      repeat' (first
        | (refine br_intro (fun hb => ?_) (fun hb => ?_) <;> (try simp only [decide_eq_true_eq, decide_eq_false_iff_not, Bool.not_eq_true', Bool.not_eq_false', Bool.and_eq_true, Bool.or_eq_true, beq_iff_eq, not_and, Int.not_le, Int.not_lt, Int.toNat_natCast, beq_eq_false_iff_ne, ne_eq, eq_self, not_true_eq_false, not_false_eq_true] at hb) <;> (conv => whnf))
        | (refine RegX.rule (id := 15) hT rfl [] [(0, []), (1, []), (2, [0, 1]), (3, [0, 1]), (4, []), (5, []), (6, []), (7, [6]), (9, [6, 7]), (10, [6, 7]), (11, [6, 7, 9, 10]), (12, [6, 7, 9, 10]), (13, [6, 7]), (8, [9, 10, 11, 12, 13]), (14, []), (15, [])] (by decide +kernel) ?_; conv => whnf)
        | (refine RegX.rule (id := 16) hT rfl [] [(0, []), (1, [0]), (2, [0, 1]), (3, [0, 1, 2]), (4, [0, 1]), (5, [0, 1]), (6, [0, 1, 2, 3, 4, 5]), (7, [0, 1, 2, 3, 4, 5, 6]), (8, [0, 1, 2, 3, 4, 5]), (9, [0, 1, 2, 3, 4, 5]), (10, [0, 1]), (11, []), (12, [])] (by decide +kernel) ?_; conv => whnf)
        | omega
        | (refine And.intro ?_ ?_; ((try dsimp only); first | omega | (refine ⟨by omega, by omega, Int.le_trans (Int.mul_le_mul_of_nonneg_right (Int.ofNat_le.2 (Nat.le_of_ble_eq_true (rfl : Nat.ble _ 1024 = true))) (by omega)) (by omega), by omega⟩) | (refine Nat.le_trans (Nat.mul_le_mul_left _ (Nat.le_of_ble_eq_true (rfl : Nat.ble _ 1024 = true))) ?_; omega) | (unfold inI64; omega) | (constructor <;> omega) | (simp only [inI64, List.length_cons, List.length_append, List.length_nil, List.length_set] at *; omega) | decide | (unfold inI64; decide)); conv => whnf)
        | omega | decide | assumption)
      · have hgk := hgk (by omega)
        refine ⟨k + 1, by omega, by omega, ?_⟩
        rw [hos, if_pos (by omega)]
        exact Entails.mk' [(5, 5), (11, 11), (13, 96)] rfl rfl ⟨SV.le_refl _, SV.le_refl _, SV.le_refl _, SV.le_refl _, SV.le_refl _, SV.le_refl _, SV.le_refl _, SV.le_refl _, SV.le_refl _, trivial⟩ ⟨Res.le_refl _, Res.le_refl _, Res.le_snocF (x := (k : Int)) rfl, trivial⟩
      · have hgk := hgk (by omega)
        refine ⟨k + 1, by omega, by omega, ?_⟩
        rw [hos, if_neg (by omega)]
        exact Entails.mk' [(5, 5), (11, 11), (13, 13)] rfl rfl ⟨SV.le_refl _, SV.le_refl _, SV.le_refl _, SV.le_refl _, SV.le_refl _, SV.le_refl _, SV.le_refl _, SV.le_refl _, SV.le_refl _, trivial⟩ ⟨Res.le_refl _, Res.le_refl _, Res.le_refl _, trivial⟩
      all_goals
        have hk : k = l.length := by omega
        subst hk
        have hend := ofI_end hlab i
        rw [hend] at hofl
        simp only [hend] at *
        refine ⟨i + 1, by omega, by omega, ?_⟩
        first
          | (rw [hgs, if_neg (fun q => by rw [q] at hb; simp at hb)]
             exact Entails.mk' [(5, 5), (11, 104)] rfl rfl ⟨SV.le_refl _, SV.le_refl _, SV.le_refl _, SV.le_refl _, trivial⟩ ⟨Res.le_refl _, Res.le_snocF (x := grpI r l i) rfl, trivial⟩)
          | (rw [hgs, if_pos (List.eq_nil_of_length_eq_zero (by omega))]
             exact Entails.mk' [(5, 5), (11, 11)] rfl rfl ⟨SV.le_refl _, SV.le_refl _, SV.le_refl _, SV.le_refl _, trivial⟩ ⟨Res.le_refl _, Res.le_refl _, trivial⟩)
    · obtain rfl : i = l.length := by omega
      refine .freeze _ 11 22 1 _ _ rfl (.weak _ ?_)
      conv => whnf
      exact ⟨_, [], SV.le_refl _, ⟨rfl, rfl⟩, trivial⟩
end Go.Proofs.YtnkdlkgannnfhaaGreatDoor
set_option maxRecDepth 20000
namespace Go.Proofs.YtnkdlkgannnfhaaGreatDoor
open Go Go.Eng
theorem grpI_len (r : Rul) (l : List Mrk) (i : Nat) : (grpI r l i).length ≤ l.length := by
  unfold grpI grpF
  rw [toI_len]
  exact Nat.le_trans (List.length_filter_le _ _) (by simp)
theorem grI_in (r : Rul) (l : List Mrk) : ∀ i, ∀ g ∈ grI r l i, g.length ≤ l.length := by
  intro i
  induction i with
  | zero => intro g hg; simp [grI, grpsF] at hg
  | succ i ih =>
    intro g hg
    rw [grI_step] at hg
    split at hg
    · exact ih g hg
    · rcases List.mem_append.1 hg with q | q
      · exact ih g q
      · rw [List.mem_singleton] at q; rw [q]; exact grpI_len r l i
-- RepairsGroup
set_option maxHeartbeats 4000000 in
theorem z14 (n : Nat) (L : Nat → Int) (hn : n ≤ maxLen) (hl : ∀ i, -2^63 ≤ L i ∧ L i < 2^63) : FSpec Tryz.prog 14 [.d (.ro 1 n fun i => [.int .i64 (L i)])] [] (fun x r => x = .d (.bool true) ∧ r = []) := by
  have hL : Rok n L := ⟨hn, hl⟩
  refine spec_of hT (C := []) Tryz.func14 rfl Tryz.call14 rfl rfl rfl ?_
  conv => whnf
  repeat' (first
    | (refine CallX.of (z46 n L hL 0 (by omega) (by omega)) [(1000000, 14)] rfl ⟨SV.le_refl _, trivial⟩ ⟨Res.le_refl _, trivial⟩ rfl rfl ?_; rintro x rout ⟨⟨p, z, m, o, q1, q2, q3, rfl⟩, ⟨c, c1, c2, rfl⟩⟩; have hp := pnOk_of q1 (by omega); have hm := mkOk_of q2 (by omega); have ho := mkOk_of q3 (by omega); refine ⟨rfl, ?_⟩; conv => whnf)
    | (refine CallX.of (sRep n L hL _ ?_ ?_ ) [(1000000, 14)] rfl ⟨SV.le_refl _, trivial⟩ ⟨Res.le_refl _, trivial⟩ rfl rfl ?_; rotate_right; rintro x rout ⟨⟨l, hl4, rfl⟩, ⟨c, c1, c2, rfl⟩⟩; refine ⟨rfl, ?_⟩; conv => whnf)
    | (refine CallX.of (s15 n L hL _ ?_ ?_ [[100, 111, 111, 114], [100, 111, 111, 114], []] ?_ ?_) [(1000000, 14)] rfl ⟨SV.le_refl _, SV.le_lit rfl rfl, trivial⟩ ⟨Res.le_refl _, trivial⟩ rfl rfl ?_; rotate_right; rintro x rout ⟨⟨pk, hpk, rfl⟩, ⟨c, c1, c2, rfl⟩⟩; have hw4 := mem_len hpk rfl; refine ⟨rfl, ?_⟩; conv => whnf)
    | (refine CallX.of (s104 n L hL _ ?_ ?_ 1 4 ?_ ?_ ?_) [(1000000, 14)] rfl ⟨SV.le_refl _, SV.le_refl _, SV.le_refl _, trivial⟩ ⟨Res.le_refl _, trivial⟩ rfl rfl ?_; rotate_right; rintro x rout ⟨⟨k, hk1, hk2, rfl⟩, ⟨c, c1, c2, rfl⟩⟩; refine ⟨rfl, ?_⟩; conv => whnf)
    | (refine CallX.of (s33 n L hL _ ?_ ?_ [0, 5000, 5001] ?_ ?_) [(1000000, 14)] rfl ⟨SV.le_refl _, SV.le_lit rfl rfl, trivial⟩ ⟨Res.le_refl _, trivial⟩ rfl rfl ?_; rotate_right; rintro x rout ⟨⟨x, hx, rfl⟩, ⟨c, c1, c2, rfl⟩⟩; refine ⟨rfl, ?_⟩; conv => whnf)
    | (refine CallX.of (s33 n L hL _ ?_ ?_ [1, 8, 10, 50, 2000] ?_ ?_) [(1000000, 14)] rfl ⟨SV.le_refl _, SV.le_lit rfl rfl, trivial⟩ ⟨Res.le_refl _, trivial⟩ rfl rfl ?_; rotate_right; rintro x rout ⟨⟨s, hs, rfl⟩, ⟨c, c1, c2, rfl⟩⟩; refine ⟨rfl, ?_⟩; conv => whnf)
    | (refine br_intro (fun hb => ?_) (fun hb => ?_) <;> (try simp only [decide_eq_true_eq, decide_eq_false_iff_not, Bool.not_eq_true', Bool.not_eq_false', Bool.and_eq_true, Bool.or_eq_true, beq_iff_eq, not_and, Int.not_le, Int.not_lt, Int.toNat_natCast, beq_eq_false_iff_ne, ne_eq, eq_self, not_true_eq_false, not_false_eq_true] at hb) <;> (conv => whnf))
    | (refine RegX.rule (id := 6) hT rfl [] [(0, []), (1, []), (3, [0, 1]), (4, [0, 1]), (5, [0, 1, 3, 4]), (6, [0, 1, 3, 4]), (2, [3, 4, 5, 6]), (7, []), (8, []), (9, []), (10, [])] (by decide +kernel) ?_; conv => whnf)
    | omega
    | (refine And.intro ?_ ?_; ((try dsimp only); first | omega | (refine ⟨by omega, by omega, Int.le_trans (Int.mul_le_mul_of_nonneg_right (Int.ofNat_le.2 (Nat.le_of_ble_eq_true (rfl : Nat.ble _ 1024 = true))) (by omega)) (by omega), by omega⟩) | (refine Nat.le_trans (Nat.mul_le_mul_left _ (Nat.le_of_ble_eq_true (rfl : Nat.ble _ 1024 = true))) ?_; omega) | (unfold inI64; omega) | (constructor <;> omega) | (simp only [inI64, List.length_cons, List.length_append, List.length_nil, List.length_set] at *; omega) | decide | (unfold inI64; decide)); conv => whnf)
    | omega | decide | assumption)
  have hm12 : m.length ≤ 12 := by have := q2.1; omega
  have hlo : reOk l := ⟨by omega, fun _ _ => trivial⟩
  have hone : mkK ⟨pk, k, x, 0, s⟩ := by unfold mkK; show pk.length ≤ _; omega
  have h90 := z90 p z m hp hm hm12
  have h91 := z91 l ⟨pk, k, x, 0, s⟩ hlo hone
  have h96 := z96 l ⟨pk, k, x, 0, s⟩ hlo.1
  have h195 := s195 [⟨pk, k, x, 0, s⟩] (mkOk_one hone)
  have h17 := s17 [rulE z, mrksPE p m] (by simp)
  have h17b := s17 [repsE l, mrksE [⟨pk, k, x, 0, s⟩]] (by simp)
  have h86 := z86 l hlo
  have h94 := z94 l hlo
  rw [show firstE [rulE z, mrksPE p m] = grpE p z m from rfl] at h17
  rw [show firstE [repsE l, mrksE [⟨pk, k, x, 0, s⟩]] = prE l ⟨pk, k, x, 0, s⟩ from rfl] at h17b
  unfold grpV at h90
  unfold prcV at h91
  by_cases hz : grpE p z m = 0
  · rw [if_pos hz] at h90
    obtain ⟨h1, h2⟩ := grpE_zero hz
    rw [hz] at h17
    have hm60 := onPE_mBd h2
    have h93 := z93 z m (rulE_bd h1) hm60.1 hm60.2
    have hgl := grI_len z m m.length
    have hgi := fun g hg => Nat.le_trans (grI_in z m m.length g hg) (Nat.le_trans hm12 (by decide : 12 ≤ 2^40))
    have h92 := z92 (grI z m m.length) (grI z m m.length) (by omega) hgi hgi
    rw [decide_eq_true rfl] at h92
    by_cases hq : prE l ⟨pk, k, x, 0, s⟩ = 0
    · rw [if_pos hq] at h91
      rw [hq] at h17b
      repeat' (first
        | (refine CallX.exact (h90) rfl rfl ?_; rotate_right; conv => whnf)
        | (refine CallX.exact (h91) rfl rfl ?_; rotate_right; conv => whnf)
        | (refine CallX.exact (s103 z) rfl rfl ?_; rotate_right; conv => whnf)
        | (refine CallX.exact (s101 p m hp hm) rfl rfl ?_; rotate_right; conv => whnf)
        | (refine CallX.pure h17 ⟨SV.le_lit (by rfl) (by rfl), trivial⟩ rfl ?_; conv => whnf)
        | (refine CallX.exact (h93) rfl rfl ?_; rotate_right; conv => whnf)
        | (refine CallX.exact (h92) rfl rfl ?_; rotate_right; conv => whnf)
        | (refine CallX.exact (h86) rfl rfl ?_; rotate_right; conv => whnf)
        | (refine CallX.exact (h94) rfl rfl ?_; rotate_right; conv => whnf)
        | (refine CallX.pure h195 ⟨SV.le_lit (by rfl) (by rfl), trivial⟩ rfl ?_; conv => whnf)
        | (refine CallX.pure h17b ⟨SV.le_lit (by rfl) (by rfl), trivial⟩ rfl ?_; conv => whnf)
        | (refine CallX.exact (h96) rfl rfl ?_; rotate_right; conv => whnf)
        | (refine CallX.exact (s42) rfl rfl ?_; rotate_right; conv => whnf)
        | (refine br_intro (fun hb => ?_) (fun hb => ?_) <;> (try simp only [decide_eq_true_eq, decide_eq_false_iff_not, Bool.not_eq_true', Bool.not_eq_false', Bool.and_eq_true, Bool.or_eq_true, beq_iff_eq, not_and, Int.not_le, Int.not_lt, Int.toNat_natCast, beq_eq_false_iff_ne, ne_eq, eq_self, not_true_eq_false, not_false_eq_true] at hb) <;> (conv => whnf))
        | (refine RegX.rule (id := 6) hT rfl [] [(0, []), (1, []), (3, [0, 1]), (4, [0, 1]), (5, [0, 1, 3, 4]), (6, [0, 1, 3, 4]), (2, [3, 4, 5, 6]), (7, []), (8, []), (9, []), (10, [])] (by decide +kernel) ?_; conv => whnf)
        | omega
        | (refine And.intro ?_ ?_; ((try dsimp only); first | omega | (refine ⟨by omega, by omega, Int.le_trans (Int.mul_le_mul_of_nonneg_right (Int.ofNat_le.2 (Nat.le_of_ble_eq_true (rfl : Nat.ble _ 1024 = true))) (by omega)) (by omega), by omega⟩) | (refine Nat.le_trans (Nat.mul_le_mul_left _ (Nat.le_of_ble_eq_true (rfl : Nat.ble _ 1024 = true))) ?_; omega) | (unfold inI64; omega) | (constructor <;> omega) | (simp only [inI64, List.length_cons, List.length_append, List.length_nil, List.length_set] at *; omega) | decide | (unfold inI64; decide)); conv => whnf)
        | omega | decide | assumption)
      refine .ret _ ?_
      conv => whnf
      refine ⟨[], ⟨?_, rfl⟩, trivial⟩
      conv => lhs; whnf
      all_goals rfl
    · rw [if_neg hq] at h91
      generalize prE l ⟨pk, k, x, 0, s⟩ = e2 at h91 h17b hq
      repeat' (first
        | (refine CallX.exact (h90) rfl rfl ?_; rotate_right; conv => whnf)
        | (refine CallX.exact (h91) rfl rfl ?_; rotate_right; conv => whnf)
        | (refine CallX.exact (s103 z) rfl rfl ?_; rotate_right; conv => whnf)
        | (refine CallX.exact (s101 p m hp hm) rfl rfl ?_; rotate_right; conv => whnf)
        | (refine CallX.pure h17 ⟨SV.le_lit (by rfl) (by rfl), trivial⟩ rfl ?_; conv => whnf)
        | (refine CallX.exact (h93) rfl rfl ?_; rotate_right; conv => whnf)
        | (refine CallX.exact (h92) rfl rfl ?_; rotate_right; conv => whnf)
        | (refine CallX.exact (h86) rfl rfl ?_; rotate_right; conv => whnf)
        | (refine CallX.exact (h94) rfl rfl ?_; rotate_right; conv => whnf)
        | (refine CallX.pure h195 ⟨SV.le_lit (by rfl) (by rfl), trivial⟩ rfl ?_; conv => whnf)
        | (refine CallX.pure h17b ⟨SV.le_lit (by rfl) (by rfl), trivial⟩ rfl ?_; conv => whnf)
        | (refine CallX.exact (h96) rfl rfl ?_; rotate_right; conv => whnf)
        | (refine CallX.exact (s42) rfl rfl ?_; rotate_right; conv => whnf)
        | (refine br_intro (fun hb => ?_) (fun hb => ?_) <;> (try simp only [decide_eq_true_eq, decide_eq_false_iff_not, Bool.not_eq_true', Bool.not_eq_false', Bool.and_eq_true, Bool.or_eq_true, beq_iff_eq, not_and, Int.not_le, Int.not_lt, Int.toNat_natCast, beq_eq_false_iff_ne, ne_eq, eq_self, not_true_eq_false, not_false_eq_true] at hb) <;> (conv => whnf))
        | (refine RegX.rule (id := 6) hT rfl [] [(0, []), (1, []), (3, [0, 1]), (4, [0, 1]), (5, [0, 1, 3, 4]), (6, [0, 1, 3, 4]), (2, [3, 4, 5, 6]), (7, []), (8, []), (9, []), (10, [])] (by decide +kernel) ?_; conv => whnf)
        | omega
        | (refine And.intro ?_ ?_; ((try dsimp only); first | omega | (refine ⟨by omega, by omega, Int.le_trans (Int.mul_le_mul_of_nonneg_right (Int.ofNat_le.2 (Nat.le_of_ble_eq_true (rfl : Nat.ble _ 1024 = true))) (by omega)) (by omega), by omega⟩) | (refine Nat.le_trans (Nat.mul_le_mul_left _ (Nat.le_of_ble_eq_true (rfl : Nat.ble _ 1024 = true))) ?_; omega) | (unfold inI64; omega) | (constructor <;> omega) | (simp only [inI64, List.length_cons, List.length_append, List.length_nil, List.length_set] at *; omega) | decide | (unfold inI64; decide)); conv => whnf)
        | omega | decide | assumption)
      refine .ret _ ?_
      conv => whnf
      refine ⟨[], ⟨?_, rfl⟩, trivial⟩
      conv => lhs; whnf
      all_goals rfl
  · rw [if_neg hz] at h90
    generalize grpE p z m = e at h90 h17 hz
    by_cases hq : prE l ⟨pk, k, x, 0, s⟩ = 0
    · rw [if_pos hq] at h91
      rw [hq] at h17b
      repeat' (first
        | (refine CallX.exact (h90) rfl rfl ?_; rotate_right; conv => whnf)
        | (refine CallX.exact (h91) rfl rfl ?_; rotate_right; conv => whnf)
        | (refine CallX.exact (s103 z) rfl rfl ?_; rotate_right; conv => whnf)
        | (refine CallX.exact (s101 p m hp hm) rfl rfl ?_; rotate_right; conv => whnf)
        | (refine CallX.pure h17 ⟨SV.le_lit (by rfl) (by rfl), trivial⟩ rfl ?_; conv => whnf)
        | (refine CallX.exact (h93) rfl rfl ?_; rotate_right; conv => whnf)
        | (refine CallX.exact (h92) rfl rfl ?_; rotate_right; conv => whnf)
        | (refine CallX.exact (h86) rfl rfl ?_; rotate_right; conv => whnf)
        | (refine CallX.exact (h94) rfl rfl ?_; rotate_right; conv => whnf)
        | (refine CallX.pure h195 ⟨SV.le_lit (by rfl) (by rfl), trivial⟩ rfl ?_; conv => whnf)
        | (refine CallX.pure h17b ⟨SV.le_lit (by rfl) (by rfl), trivial⟩ rfl ?_; conv => whnf)
        | (refine CallX.exact (h96) rfl rfl ?_; rotate_right; conv => whnf)
        | (refine CallX.exact (s42) rfl rfl ?_; rotate_right; conv => whnf)
        | (refine br_intro (fun hb => ?_) (fun hb => ?_) <;> (try simp only [decide_eq_true_eq, decide_eq_false_iff_not, Bool.not_eq_true', Bool.not_eq_false', Bool.and_eq_true, Bool.or_eq_true, beq_iff_eq, not_and, Int.not_le, Int.not_lt, Int.toNat_natCast, beq_eq_false_iff_ne, ne_eq, eq_self, not_true_eq_false, not_false_eq_true] at hb) <;> (conv => whnf))
        | (refine RegX.rule (id := 6) hT rfl [] [(0, []), (1, []), (3, [0, 1]), (4, [0, 1]), (5, [0, 1, 3, 4]), (6, [0, 1, 3, 4]), (2, [3, 4, 5, 6]), (7, []), (8, []), (9, []), (10, [])] (by decide +kernel) ?_; conv => whnf)
        | omega
        | (refine And.intro ?_ ?_; ((try dsimp only); first | omega | (refine ⟨by omega, by omega, Int.le_trans (Int.mul_le_mul_of_nonneg_right (Int.ofNat_le.2 (Nat.le_of_ble_eq_true (rfl : Nat.ble _ 1024 = true))) (by omega)) (by omega), by omega⟩) | (refine Nat.le_trans (Nat.mul_le_mul_left _ (Nat.le_of_ble_eq_true (rfl : Nat.ble _ 1024 = true))) ?_; omega) | (unfold inI64; omega) | (constructor <;> omega) | (simp only [inI64, List.length_cons, List.length_append, List.length_nil, List.length_set] at *; omega) | decide | (unfold inI64; decide)); conv => whnf)
        | omega | decide | assumption)
      refine .ret _ ?_
      conv => whnf
      refine ⟨[], ⟨?_, rfl⟩, trivial⟩
      conv => lhs; whnf
      all_goals rfl
    · rw [if_neg hq] at h91
      generalize prE l ⟨pk, k, x, 0, s⟩ = e2 at h91 h17b hq
      repeat' (first
        | (refine CallX.exact (h90) rfl rfl ?_; rotate_right; conv => whnf)
        | (refine CallX.exact (h91) rfl rfl ?_; rotate_right; conv => whnf)
        | (refine CallX.exact (s103 z) rfl rfl ?_; rotate_right; conv => whnf)
        | (refine CallX.exact (s101 p m hp hm) rfl rfl ?_; rotate_right; conv => whnf)
        | (refine CallX.pure h17 ⟨SV.le_lit (by rfl) (by rfl), trivial⟩ rfl ?_; conv => whnf)
        | (refine CallX.exact (h93) rfl rfl ?_; rotate_right; conv => whnf)
        | (refine CallX.exact (h92) rfl rfl ?_; rotate_right; conv => whnf)
        | (refine CallX.exact (h86) rfl rfl ?_; rotate_right; conv => whnf)
        | (refine CallX.exact (h94) rfl rfl ?_; rotate_right; conv => whnf)
        | (refine CallX.pure h195 ⟨SV.le_lit (by rfl) (by rfl), trivial⟩ rfl ?_; conv => whnf)
        | (refine CallX.pure h17b ⟨SV.le_lit (by rfl) (by rfl), trivial⟩ rfl ?_; conv => whnf)
        | (refine CallX.exact (h96) rfl rfl ?_; rotate_right; conv => whnf)
        | (refine CallX.exact (s42) rfl rfl ?_; rotate_right; conv => whnf)
        | (refine br_intro (fun hb => ?_) (fun hb => ?_) <;> (try simp only [decide_eq_true_eq, decide_eq_false_iff_not, Bool.not_eq_true', Bool.not_eq_false', Bool.and_eq_true, Bool.or_eq_true, beq_iff_eq, not_and, Int.not_le, Int.not_lt, Int.toNat_natCast, beq_eq_false_iff_ne, ne_eq, eq_self, not_true_eq_false, not_false_eq_true] at hb) <;> (conv => whnf))
        | (refine RegX.rule (id := 6) hT rfl [] [(0, []), (1, []), (3, [0, 1]), (4, [0, 1]), (5, [0, 1, 3, 4]), (6, [0, 1, 3, 4]), (2, [3, 4, 5, 6]), (7, []), (8, []), (9, []), (10, [])] (by decide +kernel) ?_; conv => whnf)
        | omega
        | (refine And.intro ?_ ?_; ((try dsimp only); first | omega | (refine ⟨by omega, by omega, Int.le_trans (Int.mul_le_mul_of_nonneg_right (Int.ofNat_le.2 (Nat.le_of_ble_eq_true (rfl : Nat.ble _ 1024 = true))) (by omega)) (by omega), by omega⟩) | (refine Nat.le_trans (Nat.mul_le_mul_left _ (Nat.le_of_ble_eq_true (rfl : Nat.ble _ 1024 = true))) ?_; omega) | (unfold inI64; omega) | (constructor <;> omega) | (simp only [inI64, List.length_cons, List.length_append, List.length_nil, List.length_set] at *; omega) | decide | (unfold inI64; decide)); conv => whnf)
        | omega | decide | assumption)
      refine .ret _ ?_
      conv => whnf
      refine ⟨[], ⟨?_, rfl⟩, trivial⟩
      conv => lhs; whnf
      all_goals rfl
end Go.Proofs.YtnkdlkgannnfhaaGreatDoor
set_option maxRecDepth 20000
namespace Go.Proofs.YtnkdlkgannnfhaaGreatDoor
open Go Go.Eng
def mostN (q : List Rep) (l : List Mrk) (g : List Int) : Nat → Int
  | 0 => 0
  | i + 1 => max (mostN q l g i) (price q (l.getD (g.getD i 0).toNat mk0))
def sumN (q : List Rep) (l : List Mrk) (g : List Int) : Nat → Int
  | 0 => 0
  | i + 1 => sumN q l g i + price q (l.getD (g.getD i 0).toNat mk0)
def amtI (q : List Rep) (r : Rul) (l : List Mrk) (g : List Int) : Int := mostN q l g g.length + (r.part * (sumN q l g g.length - mostN q l g g.length)).tdiv 1000
def panG (l : List Mrk) (g : List Int) : List UInt8 := (l.getD (g.getD 0 0).toNat mk0).pan
def estN (q : List Rep) (r : Rul) (l : List Mrk) (G : List (List Int)) (key : List UInt8) : Nat → Int
  | 0 => 0
  | t + 1 => if panG l (G.getD t []) = key then estN q r l G key t + amtI q r l (G.getD t []) else estN q r l G key t
theorem price_bd {q : List Rep} (h : repsE q = 0) (m : Mrk) : 0 ≤ price q m ∧ price q m ≤ 1000000 := by
  unfold repsE at h
  split at h
  · cases h
  have hc : ∀ j, j < q.length → 0 ≤ (q.getD j re0).cents ∧ (q.getD j re0).cents ≤ 1000000 := fun j hj => by
    have := firstAt_all h j hj
    unfold repE at this
    grind
  have : ∀ i, i ≤ q.length → 0 ≤ prcN q m i ∧ prcN q m i ≤ 1000000 := by
    intro i
    induction i with
    | zero => intro _; simp [prcN]
    | succ i ih =>
      intro hi
      rw [prcN]
      split
      · exact hc i (by omega)
      · exact ih (by omega)
  exact this _ (Nat.le_refl _)
theorem most_bd {q : List Rep} (h : repsE q = 0) (l : List Mrk) (g : List Int) : ∀ i, 0 ≤ mostN q l g i ∧ mostN q l g i ≤ 1000000 ∧ mostN q l g i ≤ sumN q l g i ∧ sumN q l g i ≤ 1000000 * i := by
  intro i
  induction i with
  | zero => simp [mostN, sumN]
  | succ i ih =>
    have := price_bd h (l.getD (g.getD i 0).toNat mk0)
    rw [mostN, sumN]
    omega
theorem prod_bd {a b : Int} (h0 : 0 ≤ a) (h1 : a ≤ 1000) (h2 : 0 ≤ b) : 0 ≤ a * b ∧ a * b ≤ 1000 * b ∧ 0 ≤ (a * b).tdiv 1000 ∧ (a * b).tdiv 1000 ≤ b := by
  have e1 : 0 ≤ a * b := Int.mul_nonneg h0 h2
  have e2 : a * b ≤ 1000 * b := Int.mul_le_mul_of_nonneg_right h1 h2
  rw [Int.tdiv_eq_ediv_of_nonneg e1]
  omega
theorem amt_bd {q : List Rep} (h : repsE q = 0) {r : Rul} (hr : rBd r) (l : List Mrk) {g : List Int} (hg : g.length ≤ 12) : 0 ≤ amtI q r l g ∧ amtI q r l g ≤ 13000000 := by
  have h1 := most_bd h l g g.length
  have h2 := prod_bd (a := r.part) (b := sumN q l g g.length - mostN q l g g.length) (by unfold rBd at hr; omega) (by unfold rBd at hr; omega) (by omega)
  unfold amtI
  omega
theorem est_bd {q : List Rep} (h : repsE q = 0) {r : Rul} (hr : rBd r) (l : List Mrk) {G : List (List Int)} (hG : ∀ g ∈ G, g.length ≤ 12) (key : List UInt8) : ∀ t, t ≤ G.length → 0 ≤ estN q r l G key t ∧ estN q r l G key t ≤ 13000000 * t := by
  intro t
  induction t with
  | zero => intro _; simp [estN]
  | succ t ih =>
    intro ht
    have := ih (by omega)
    have h1 := amt_bd h hr l (hG (G.getD t []) (getD_mem (by omega)))
    rw [estN]
    split <;> omega
def outS (q : List Rep) (r : Rul) (l : List Mrk) (G : List (List Int)) (p : List Pnl) (j : Nat) : Int := min (estN q r l G (p.getD j pn0).key G.length) (p.getD j pn0).pr
def outL (q : List Rep) (r : Rul) (l : List Mrk) (G : List (List Int)) (p : List Pnl) : Nat → List Int
  | 0 => []
  | n + 1 => outL q r l G p n ++ [outS q r l G p n]
def allN (q : List Rep) (r : Rul) (l : List Mrk) (G : List (List Int)) (p : List Pnl) : Nat → Int
  | 0 => 0
  | n + 1 => allN q r l G p n + outS q r l G p n
theorem outL_len (q : List Rep) (r : Rul) (l : List Mrk) (G : List (List Int)) (p : List Pnl) : ∀ n, (outL q r l G p n).length = n := by
  intro n
  induction n with
  | zero => rfl
  | succ n ih => rw [outL, List.length_append, ih]; rfl
theorem outL_get (q : List Rep) (r : Rul) (l : List Mrk) (G : List (List Int)) (p : List Pnl) : ∀ n j, j < n → (outL q r l G p n).getD j 0 = outS q r l G p j := by
  intro n
  induction n with
  | zero => intro j hj; omega
  | succ n ih =>
    intro j hj
    have hl := outL_len q r l G p n
    rw [outL, List.getD_eq_getElem?_getD]
    rcases Nat.lt_or_ge j n with h | h
    · rw [List.getElem?_append_left (by omega), ← List.getD_eq_getElem?_getD, ih j h]
    · have : j = n := by omega
      subst this
      rw [List.getElem?_append_right (by omega), hl]; simp
theorem all_bd {q : List Rep} {r : Rul} {l : List Mrk} {G : List (List Int)} {p : List Pnl} (h : ∀ j, j < p.length → 0 ≤ outS q r l G p j ∧ outS q r l G p j ≤ 1000000) : ∀ n, n ≤ p.length → 0 ≤ allN q r l G p n ∧ allN q r l G p n ≤ 1000000 * n := by
  intro n
  induction n with
  | zero => intro _; simp [allN]
  | succ n ih =>
    intro hn
    have := ih (by omega)
    have := h n (by omega)
    rw [allN]
    omega
theorem panE_pr {p : List Pnl} (h : pansE p = 0) : p.length ≤ 40 ∧ ∀ j, j < p.length → 0 ≤ (p.getD j pn0).pr ∧ (p.getD j pn0).pr ≤ 1000000 := by
  unfold pansE at h
  split at h
  · cases h
  refine ⟨by omega, fun j hj => ?_⟩
  have := firstAt_all h j hj
  unfold panE at this
  grind
theorem pan_up {p : List Pnl} (h : pansE p = 0) : ∀ j i, i < j → j < p.length → Op.bytesLess (p.getD i pn0).key (p.getD j pn0).key = true := by
  unfold pansE at h
  split at h
  · cases h
  have hs : ∀ j, 0 < j → j < p.length → Op.bytesLess (p.getD (j - 1) pn0).key (p.getD j pn0).key = true := fun j h0 hj => by
    have := firstAt_all h j hj
    unfold panE strLe at this
    simp only at this
    have h3 : ¬ ((Op.bytesLess (p.getD j pn0).key (p.getD (j - 1) pn0).key || (p.getD j pn0).key == (p.getD (j - 1) pn0).key) = true) := fun q => by
      split at this
      · cases this
      · rw [if_pos ⟨h0, q⟩] at this; cases this
    rw [Bool.or_eq_true, not_or] at h3
    exact less_tri _ _ (by simpa using h3.1) (by simpa using h3.2)
  intro j
  induction j with
  | zero => intro i hi; omega
  | succ j ih =>
    intro i hi hj
    have h1 := hs (j + 1) (by omega) hj
    rcases Nat.lt_or_ge i j with q | q
    · exact less_trans (ih i q (by omega)) h1
    · have : i = j := by omega
      subst this; exact h1
theorem pan_uniq {p : List Pnl} (h : pansE p = 0) {i j : Nat} (hi : i < p.length) (hj : j < p.length) (e : (p.getD i pn0).key = (p.getD j pn0).key) : i = j := by
  rcases Nat.lt_trichotomy i j with q | q | q
  · have := pan_up h j i q hj
    rw [e, less_irr] at this; cases this
  · exact q
  · have := pan_up h i j q hi
    rw [e, less_irr] at this; cases this
theorem onPE_pan {p : List Pnl} {l : List Mrk} (h : onPE p l = 0) : ∀ i, i < l.length → 0 ≤ panIx p (l.getD i mk0).pan := by
  unfold onPE at h
  split at h
  · omega
  split at h
  · omega
  rename_i h1
  intro i hi
  have := firstAt_all (by omega : firstAt (onE p l) l.length = 0) i hi
  unfold onE at this
  simp only at this
  split at this
  · omega
  · omega
theorem panIx_hit {p : List Pnl} {key : List UInt8} (h : 0 ≤ panIx p key) : (p.getD (panIx p key).toNat pn0).key = key := by
  have := (ixF_bd (p := fun i => (p.getD i pn0).key == key) (n := p.length)).2.2 h
  exact eq_of_beq this
theorem grI_all (r : Rul) (l : List Mrk) : ∀ i, ∀ g ∈ grI r l i, g.length ≤ l.length ∧ 0 < g.length ∧ ∀ k, k < g.length → 0 ≤ g.getD k 0 ∧ (g.getD k 0).toNat < l.length := by
  have hone : ∀ i, grpI r l i ≠ [] → (grpI r l i).length ≤ l.length ∧ 0 < (grpI r l i).length ∧ ∀ k, k < (grpI r l i).length → 0 ≤ (grpI r l i).getD k 0 ∧ ((grpI r l i).getD k 0).toNat < l.length := fun i h => by
    refine ⟨grpI_len r l i, List.length_pos_iff.2 h, fun k hk => ?_⟩
    unfold grpI at hk ⊢
    rw [toI_len] at hk
    rw [toI_get hk]
    have hm : (grpF l.length (labM r l) i).getD k 0 ∈ grpF l.length (labM r l) i := getD_mem hk
    unfold grpF at hm ⊢
    have := List.mem_range.1 (List.mem_filter.1 hm).1
    omega
  intro i
  induction i with
  | zero => intro g hg; simp [grI, grpsF] at hg
  | succ i ih =>
    intro g hg
    rw [grI_step] at hg
    split at hg
    · exact ih g hg
    · rcases List.mem_append.1 hg with q | q
      · exact ih g q
      · rename_i hne
        rw [List.mem_singleton] at q; rw [q]; exact hone i hne
abbrev lcell (l : List Mrk) : Res := .cells 77 [.d (mrks l)]
abbrev gcell (g : List Int) : Res := .cells 22 [.d (ints g)]
-- mark.Estimate$1
theorem z194 (l : List Mrk) (g : List Int) (hg : 0 < g.length) (h0 : 0 ≤ g.getD 0 0) (h1 : (g.getD 0 0).toNat < l.length) (x : Pnl) : FSpec Tryz.prog 194 [.agg ((pnF x).map .d), .ptr 1000001 0, .ptr 1000002 0] [(1000001, lcell l), (1000002, gcell g)] (fun y r => y = .d (.bool (x.key == panG l g)) ∧ r = [(1000001, lcell l), (1000002, gcell g)]) := by
  have h2 : 0 ≤ g.getD (Int.toNat 0) 0 ∧ g.getD (Int.toNat 0) 0 < (l.length : Int) := ⟨h0, by show g.getD 0 0 < _; omega⟩
  refine spec_of hT (C := []) Tryz.func194 rfl Tryz.call194 rfl rfl rfl ?_
  conv => whnf
  repeat' (first
    | (refine br_intro (fun hb => ?_) (fun hb => ?_) <;> (try simp only [decide_eq_true_eq, decide_eq_false_iff_not, Bool.not_eq_true', Bool.not_eq_false', Bool.and_eq_true, Bool.or_eq_true, beq_iff_eq, not_and, Int.not_le, Int.not_lt, Int.toNat_natCast, beq_eq_false_iff_ne, ne_eq, eq_self, not_true_eq_false, not_false_eq_true] at hb) <;> (conv => whnf))
    | (refine RegX.rule (id := 1) hT rfl [] [(0, []), (1, []), (2, [0, 1]), (3, [0, 1, 2]), (4, [0, 1, 2]), (5, [0, 1, 2]), (6, [0, 1]), (7, [0, 1]), (8, [0, 1]), (9, []), (10, [])] (by decide +kernel) ?_; conv => whnf)
    | omega
    | (refine And.intro ?_ ?_; ((try dsimp only); first | omega | (refine ⟨by omega, by omega, Int.le_trans (Int.mul_le_mul_of_nonneg_right (Int.ofNat_le.2 (Nat.le_of_ble_eq_true (rfl : Nat.ble _ 1024 = true))) (by omega)) (by omega), by omega⟩) | (refine Nat.le_trans (Nat.mul_le_mul_left _ (Nat.le_of_ble_eq_true (rfl : Nat.ble _ 1024 = true))) ?_; omega) | (unfold inI64; omega) | (constructor <;> omega) | (simp only [inI64, List.length_cons, List.length_append, List.length_nil, List.length_set] at *; omega) | decide | (unfold inI64; decide)); conv => whnf)
    | omega | decide | assumption)
  refine .ret _ ?_
  conv => whnf
  exact ⟨[(1000001, lcell l), (1000002, gcell g)], ⟨rfl, rfl⟩, Res.le_refl _, Res.le_refl _, trivial⟩
-- slices.IndexFunc of panels, by a group
theorem z193 (p : List Pnl) (hp : p.length ≤ 2^40) (l : List Mrk) (g : List Int) (hg : 0 < g.length) (h0 : 0 ≤ g.getD 0 0) (h1 : (g.getD 0 0).toNat < l.length) :
    FSpec Tryz.prog 193 [.d (pnls p), .fn 194 [.ptr 1000001 0, .ptr 1000002 0]] [(1000001, lcell l), (1000002, gcell g)] (fun x r => x = .d (.int .i64 (panIx p (panG l g))) ∧ r = [(1000001, lcell l), (1000002, gcell g)]) := by
  refine spec_of hT (C := []) Tryz.func193 rfl Tryz.call193 rfl rfl rfl ?_
  conv => whnf
  refine LoopX.rule hT (C := []) (ι := Nat) (fun i => i ≤ p.length ∧ ∀ j, j < i → ((p.getD j pn0).key == panG l g) = false) (fun i => mkSt [(0, .d (pnls p)), (1, .fn 194 [.ptr 1000001 0, .ptr 1000002 0]), (7, .d (.int .i64 p.length)), (8, .d (.int .i64 i))] [(1000001, lcell l), (1000002, gcell g)]) (fun i => p.length - i) 0 ⟨by omega, by omega⟩ (by refine Entails.mk' [(1000001, 1000001), (1000002, 1000002)] rfl rfl ?_ ?_ <;> repeat' (first | exact True.intro | exact SV.le_refl _ | exact Res.le_refl _ | exact SV.le_int (by omega) | exact SV.le_any _ | refine And.intro ?_ ?_)) ?_
  rintro i ⟨p1, p2⟩
  have e1 : (i : Int).toNat = i := Int.toNat_natCast i
  conv => whnf
  repeat' (first
    | (refine CallX.of (z194 l g hg h0 h1 (p.getD (i : Int).toNat pn0)) [(1000001, 1000001), (1000002, 1000002)] rfl ⟨SV.le_refl _, SV.le_refl _, SV.le_refl _, trivial⟩ ⟨Res.le_refl _, Res.le_refl _, trivial⟩ rfl rfl ?_; rintro x rout ⟨rfl, rfl⟩; refine ⟨rfl, ?_⟩; conv => whnf)
    | (refine br_intro (fun hb => ?_) (fun hb => ?_) <;> (try simp only [decide_eq_true_eq, decide_eq_false_iff_not, Bool.not_eq_true', Bool.not_eq_false', Bool.and_eq_true, Bool.or_eq_true, beq_iff_eq, not_and, Int.not_le, Int.not_lt, Int.toNat_natCast, beq_eq_false_iff_ne, ne_eq, eq_self, not_true_eq_false, not_false_eq_true] at hb) <;> (conv => whnf))
    | omega
    | (refine And.intro ?_ ?_; ((try dsimp only); first | omega | (refine ⟨by omega, by omega, Int.le_trans (Int.mul_le_mul_of_nonneg_right (Int.ofNat_le.2 (Nat.le_of_ble_eq_true (rfl : Nat.ble _ 1024 = true))) (by omega)) (by omega), by omega⟩) | (refine Nat.le_trans (Nat.mul_le_mul_left _ (Nat.le_of_ble_eq_true (rfl : Nat.ble _ 1024 = true))) ?_; omega) | (unfold inI64; omega) | (constructor <;> omega) | (simp only [inI64, List.length_cons, List.length_append, List.length_nil, List.length_set] at *; omega) | decide | (unfold inI64; decide)); conv => whnf)
    | omega | decide | assumption)
  · refine .ret _ ?_
    conv => whnf
    refine ⟨[(1000001, lcell l), (1000002, gcell g)], ⟨?_, rfl⟩, Res.le_refl _, Res.le_refl _, trivial⟩
    conv => lhs; whnf
    congr 2
    exact (ixF_hit (by omega) p2 (by simpa using hb)).symm
  · exact ⟨i + 1, ⟨by omega, all_step p2 (by simpa using hb)⟩, by omega, (by refine Entails.mk' [(1000001, 1000001), (1000002, 1000002)] rfl rfl ?_ ?_ <;> repeat' (first | exact True.intro | exact SV.le_refl _ | exact Res.le_refl _ | exact SV.le_int (by omega) | exact SV.le_any _ | refine And.intro ?_ ?_))⟩
  · refine .ret _ ?_
    conv => whnf
    refine ⟨[(1000001, lcell l), (1000002, gcell g)], ⟨?_, rfl⟩, Res.le_refl _, Res.le_refl _, trivial⟩
    conv => lhs; whnf
    congr 2
    have : i = p.length := by omega
    subst this
    exact (ixF_none p2).symm
end Go.Proofs.YtnkdlkgannnfhaaGreatDoor
