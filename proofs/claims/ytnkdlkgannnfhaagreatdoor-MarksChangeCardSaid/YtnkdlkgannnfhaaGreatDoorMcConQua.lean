/- MarksChange is proved: for every input the law returns true, and its argument reads afterwards as it read before. Conditions: those of the given row alone. -/
import Derived.Test.YtnkdlkgannnfhaaGreatDoorMcConTri
set_option linter.unusedVariables false
set_option linter.unusedSimpArgs false
set_option maxRecDepth 20000
namespace Go.Proofs.YtnkdlkgannnfhaaGreatDoor
open Go Go.Eng
-- ChangesOf
set_option maxHeartbeats 4000000 in
theorem z79 (r : Rul) (a b : List Mrk) (hr : rBd r) (hinc : incM a) (ha : mB a) (hb2 : mB b) : FSpec Tryz.prog 79 [.agg ((ruF r).map .d), .d (mrks a), .d (mrks b)] [] (fun y r' => y = .tup [.d (ints (numL (newB (mtL r a b)) b.length)), .d (ints (numL (growB r a b (mtL r a b)) b.length)), .d (ints (numL (goneB (mtL r a b)) a.length))] ∧ r' = []) := by
  have ha1 := ha.1
  have hb1 := hb2.1
  have h47 := z47f r a b hr hinc ha hb2
  have hml := (mtL_ok r a b).1
  have hin : ∀ x ∈ mtL r a b, 0 ≤ x.a ∧ x.a < (a.length : Int) := mtL_in
  have hu := mtL_uniq (r := r) (b := b) hinc
  generalize mtL r a b = m at h47 hml hin hu
  refine spec_of hT (C := []) Tryz.func79 rfl Tryz.call79 rfl rfl rfl ?_
  conv => whnf
  repeat' (first
    | (refine CallX.exact (h47) rfl rfl ?_; rotate_right; conv => whnf)
    | (refine br_intro (fun hb => ?_) (fun hb => ?_) <;> (try simp only [decide_eq_true_eq, decide_eq_false_iff_not, Bool.not_eq_true', Bool.not_eq_false', Bool.and_eq_true, Bool.or_eq_true, beq_iff_eq, not_and, Int.not_le, Int.not_lt, Int.toNat_natCast, beq_eq_false_iff_ne, ne_eq, eq_self, not_true_eq_false, not_false_eq_true] at hb) <;> (conv => whnf))
    | (refine RegX.rule (id := 8) hT rfl [] [(0, []), (1, [0]), (2, []), (3, []), (4, []), (5, [0, 1, 2, 3, 4]), (6, [0, 1, 2, 3, 4, 5]), (7, [0, 1, 2, 3, 4, 5, 6]), (8, [0, 1, 2, 3, 4, 5]), (9, [0, 1, 2, 3, 4, 5]), (10, [0, 1, 2, 3, 4, 5]), (11, [0, 1, 2, 3, 4]), (12, [0, 1, 2, 3, 4]), (13, [0, 1, 2, 3, 4]), (14, []), (15, [0, 1, 2, 3, 4, 5, 6, 7, 8, 9, 10, 11, 12, 13, 14]), (16, [0, 1, 2, 3, 4, 5, 6, 7, 8, 9, 10, 11, 12, 13, 14]), (17, []), (18, [])] (by decide +kernel) ?_; conv => whnf)
    | omega
    | (refine And.intro ?_ ?_; ((try dsimp only); first | omega | (refine ⟨by omega, by omega, Int.le_trans (Int.mul_le_mul_of_nonneg_right (Int.ofNat_le.2 (Nat.le_of_ble_eq_true (rfl : Nat.ble _ 1024 = true))) (by omega)) (by omega), by omega⟩) | (refine Nat.le_trans (Nat.mul_le_mul_left _ (Nat.le_of_ble_eq_true (rfl : Nat.ble _ 1024 = true))) ?_; omega) | (unfold inI64; omega) | (constructor <;> omega) | (simp only [inI64, List.length_cons, List.length_append, List.length_nil, List.length_set] at *; omega) | decide | (unfold inI64; decide)); conv => whnf)
    | omega | decide | assumption)
  refine LoopX.rule hT (C := []) (ι := Nat) (fun k => k ≤ b.length) (fun k => mkSt [(1, .d (mrks a)), (2, .d (mrks b)), (3, .ptr 3 0), (6, .buf 6), (7, .buf 7), (8, .d .nilsl), (9, .d (prgs m)), (18, .d (.int .i64 b.length)), (19, .d (.int .i64 k))]
    [(3, rucell r), (6, seqB 3 1 iF 0 (numL (newB m) k)), (7, seqB 3 1 iF 0 (numL (growB r a b m) k))]) (fun k => b.length - k) 0 (by omega) ?_ ?_
  · exact (Entails.nil 6 6 3 1 (rowF iF 0 []) rfl rfl (by decide)).trans ((Entails.nil 7 7 3 1 (rowF iF 0 []) rfl rfl (by decide)).trans (by refine Entails.mk' [(3, 3), (6, 6), (7, 7)] rfl rfl ?_ ?_ <;> repeat' (first | exact True.intro | exact SV.le_refl _ | exact Res.le_refl _ | exact SV.le_int (by omega) | exact SV.le_any _ | refine And.intro ?_ ?_)))
  rintro k k1
  have hn1 := numL_succ (newB m) k
  have hn2 := numL_succ (growB r a b m) k
  have hn3 := numL_len (newB m) k
  have hn4 := numL_len (growB r a b m) k
  have h159 := z159i k 181 m (by omega) (fun x => x.b == (k : Int)) (fun x _ => z181 x k)
  have hnew : newB m k = !decide (0 ≤ pIx (fun x => x.b == (k : Int)) m) := by rw [pIx_any]; rfl
  have hgrow : 0 ≤ pIx (fun x => x.b == (k : Int)) m → growB r a b m k = bigB r a b k (m.getD (pIx (fun x => x.b == (k : Int)) m).toNat pr0) := fun h => uniq_any hu h
  have hnone : ¬ 0 ≤ pIx (fun x => x.b == (k : Int)) m → growB r a b m k = false := fun h => by
    have h1 : (m.any fun x => x.b == (k : Int)) = false := by rw [← pIx_any]; simpa using h
    unfold growB
    rw [List.any_eq_false] at h1 ⊢
    intro x hx
    have := h1 x hx
    simp only [Bool.and_eq_true, not_and]
    intro q; exact absurd q this
  have hlt : pIx (fun x => x.b == (k : Int)) m < m.length := (ixF_bd (p := fun i => (m.getD i pr0).b == (k : Int)) (n := m.length)).2.1
  have hxm := fun (h : 0 ≤ pIx (fun x => x.b == (k : Int)) m) => hin _ (getD_mem (x := pr0) (i := (pIx (fun x => x.b == (k : Int)) m).toNat) (l := m) (by omega))
  generalize pIx (fun x => x.b == (k : Int)) m = ix at h159 hnew hgrow hnone hlt hxm
  by_cases hk : k < b.length
  · have hB : mBd (b.getD (k : Int).toNat mk0) := hb2.2 _ (by omega)
    have hA := fun (h : 0 ≤ ix) => ha.2 (m.getD ix.toNat pr0).a.toNat (by have := hxm h; omega)
    unfold mBd at hB hA
    by_cases h0 : 0 ≤ ix
    · have hA := hA h0
      have hxm := hxm h0
      conv => whnf
      repeat' (first
        | (refine CallX.of h159 [(1000001, 10)] rfl ⟨SV.le_refl _, SV.le_refl _, trivial⟩ ⟨Res.le_refl _, trivial⟩ rfl rfl ?_; rintro x rout ⟨rfl, rfl⟩; refine ⟨rfl, ?_⟩; conv => whnf)
        | (refine br_intro (fun hb => ?_) (fun hb => ?_) <;> (try simp only [decide_eq_true_eq, decide_eq_false_iff_not, Bool.not_eq_true', Bool.not_eq_false', Bool.and_eq_true, Bool.or_eq_true, beq_iff_eq, not_and, Int.not_le, Int.not_lt, Int.toNat_natCast, beq_eq_false_iff_ne, ne_eq, eq_self, not_true_eq_false, not_false_eq_true] at hb) <;> (conv => whnf))
        | (refine RegX.rule (id := 8) hT rfl [] [(0, []), (1, [0]), (2, []), (3, []), (4, []), (5, [0, 1, 2, 3, 4]), (6, [0, 1, 2, 3, 4, 5]), (7, [0, 1, 2, 3, 4, 5, 6]), (8, [0, 1, 2, 3, 4, 5]), (9, [0, 1, 2, 3, 4, 5]), (10, [0, 1, 2, 3, 4, 5]), (11, [0, 1, 2, 3, 4]), (12, [0, 1, 2, 3, 4]), (13, [0, 1, 2, 3, 4]), (14, []), (15, [0, 1, 2, 3, 4, 5, 6, 7, 8, 9, 10, 11, 12, 13, 14]), (16, [0, 1, 2, 3, 4, 5, 6, 7, 8, 9, 10, 11, 12, 13, 14]), (17, []), (18, [])] (by decide +kernel) ?_; conv => whnf)
        | omega
        | (refine And.intro ?_ ?_; ((try dsimp only); first | omega | (refine ⟨by omega, by omega, Int.le_trans (Int.mul_le_mul_of_nonneg_right (Int.ofNat_le.2 (Nat.le_of_ble_eq_true (rfl : Nat.ble _ 1024 = true))) (by omega)) (by omega), by omega⟩) | (refine Nat.le_trans (Nat.mul_le_mul_left _ (Nat.le_of_ble_eq_true (rfl : Nat.ble _ 1024 = true))) ?_; omega) | (unfold inI64; omega) | (constructor <;> omega) | (simp only [inI64, List.length_cons, List.length_append, List.length_nil, List.length_set] at *; omega) | decide | (unfold inI64; decide)); conv => whnf)
        | omega | decide | assumption)
      all_goals first
        | exact absurd h0 (by omega)
        | (refine ⟨k + 1, by omega, by omega, ?_⟩
           rw [hn1, hn2, if_neg (by rw [hnew, decide_eq_true h0]; simp), if_pos (by rw [hgrow h0]; unfold bigB; simpa using hb)]
           exact Entails.mk' [(3, 3), (6, 6), (7, 54)] rfl rfl ⟨SV.le_refl _, SV.le_refl _, SV.le_refl _, SV.le_refl _, SV.le_refl _, SV.le_refl _, SV.le_refl _, SV.le_refl _, SV.le_refl _, trivial⟩ ⟨Res.le_refl _, Res.le_refl _, Res.le_snocF (x := (k : Int)) rfl, trivial⟩)
        | (refine ⟨k + 1, by omega, by omega, ?_⟩
           rw [hn1, hn2, if_neg (by rw [hnew, decide_eq_true h0]; simp), if_neg (by rw [hgrow h0]; unfold bigB; simpa using hb)]
           exact Entails.mk' [(3, 3), (6, 6), (7, 7)] rfl rfl ⟨SV.le_refl _, SV.le_refl _, SV.le_refl _, SV.le_refl _, SV.le_refl _, SV.le_refl _, SV.le_refl _, SV.le_refl _, SV.le_refl _, trivial⟩ ⟨Res.le_refl _, Res.le_refl _, Res.le_refl _, trivial⟩)
    · conv => whnf
      repeat' (first
        | (refine CallX.of h159 [(1000001, 10)] rfl ⟨SV.le_refl _, SV.le_refl _, trivial⟩ ⟨Res.le_refl _, trivial⟩ rfl rfl ?_; rintro x rout ⟨rfl, rfl⟩; refine ⟨rfl, ?_⟩; conv => whnf)
        | (refine br_intro (fun hb => ?_) (fun hb => ?_) <;> (try simp only [decide_eq_true_eq, decide_eq_false_iff_not, Bool.not_eq_true', Bool.not_eq_false', Bool.and_eq_true, Bool.or_eq_true, beq_iff_eq, not_and, Int.not_le, Int.not_lt, Int.toNat_natCast, beq_eq_false_iff_ne, ne_eq, eq_self, not_true_eq_false, not_false_eq_true] at hb) <;> (conv => whnf))
        | (refine RegX.rule (id := 8) hT rfl [] [(0, []), (1, [0]), (2, []), (3, []), (4, []), (5, [0, 1, 2, 3, 4]), (6, [0, 1, 2, 3, 4, 5]), (7, [0, 1, 2, 3, 4, 5, 6]), (8, [0, 1, 2, 3, 4, 5]), (9, [0, 1, 2, 3, 4, 5]), (10, [0, 1, 2, 3, 4, 5]), (11, [0, 1, 2, 3, 4]), (12, [0, 1, 2, 3, 4]), (13, [0, 1, 2, 3, 4]), (14, []), (15, [0, 1, 2, 3, 4, 5, 6, 7, 8, 9, 10, 11, 12, 13, 14]), (16, [0, 1, 2, 3, 4, 5, 6, 7, 8, 9, 10, 11, 12, 13, 14]), (17, []), (18, [])] (by decide +kernel) ?_; conv => whnf)
        | omega
        | (refine And.intro ?_ ?_; ((try dsimp only); first | omega | (refine ⟨by omega, by omega, Int.le_trans (Int.mul_le_mul_of_nonneg_right (Int.ofNat_le.2 (Nat.le_of_ble_eq_true (rfl : Nat.ble _ 1024 = true))) (by omega)) (by omega), by omega⟩) | (refine Nat.le_trans (Nat.mul_le_mul_left _ (Nat.le_of_ble_eq_true (rfl : Nat.ble _ 1024 = true))) ?_; omega) | (unfold inI64; omega) | (constructor <;> omega) | (simp only [inI64, List.length_cons, List.length_append, List.length_nil, List.length_set] at *; omega) | decide | (unfold inI64; decide)); conv => whnf)
        | omega | decide | assumption)
      all_goals first
        | exact absurd (by omega : 0 ≤ ix) h0
        | (refine ⟨k + 1, by omega, by omega, ?_⟩
           rw [hn1, hn2, if_pos (by rw [hnew, decide_eq_false h0]; rfl), if_neg (by rw [hnone h0]; simp)]
           exact Entails.mk' [(3, 3), (6, 31), (7, 7)] rfl rfl ⟨SV.le_refl _, SV.le_refl _, SV.le_refl _, SV.le_refl _, SV.le_refl _, SV.le_refl _, SV.le_refl _, SV.le_refl _, SV.le_refl _, trivial⟩ ⟨Res.le_refl _, Res.le_snocF (x := (k : Int)) rfl, Res.le_refl _, trivial⟩)
  · obtain rfl : k = b.length := by omega
    conv => whnf
    repeat' (first
      | (refine br_intro (fun hb => ?_) (fun hb => ?_) <;> (try simp only [decide_eq_true_eq, decide_eq_false_iff_not, Bool.not_eq_true', Bool.not_eq_false', Bool.and_eq_true, Bool.or_eq_true, beq_iff_eq, not_and, Int.not_le, Int.not_lt, Int.toNat_natCast, beq_eq_false_iff_ne, ne_eq, eq_self, not_true_eq_false, not_false_eq_true] at hb) <;> (conv => whnf))
      | (refine RegX.rule (id := 8) hT rfl [] [(0, []), (1, [0]), (2, []), (3, []), (4, []), (5, [0, 1, 2, 3, 4]), (6, [0, 1, 2, 3, 4, 5]), (7, [0, 1, 2, 3, 4, 5, 6]), (8, [0, 1, 2, 3, 4, 5]), (9, [0, 1, 2, 3, 4, 5]), (10, [0, 1, 2, 3, 4, 5]), (11, [0, 1, 2, 3, 4]), (12, [0, 1, 2, 3, 4]), (13, [0, 1, 2, 3, 4]), (14, []), (15, [0, 1, 2, 3, 4, 5, 6, 7, 8, 9, 10, 11, 12, 13, 14]), (16, [0, 1, 2, 3, 4, 5, 6, 7, 8, 9, 10, 11, 12, 13, 14]), (17, []), (18, [])] (by decide +kernel) ?_; conv => whnf)
      | omega
      | (refine And.intro ?_ ?_; ((try dsimp only); first | omega | (refine ⟨by omega, by omega, Int.le_trans (Int.mul_le_mul_of_nonneg_right (Int.ofNat_le.2 (Nat.le_of_ble_eq_true (rfl : Nat.ble _ 1024 = true))) (by omega)) (by omega), by omega⟩) | (refine Nat.le_trans (Nat.mul_le_mul_left _ (Nat.le_of_ble_eq_true (rfl : Nat.ble _ 1024 = true))) ?_; omega) | (unfold inI64; omega) | (constructor <;> omega) | (simp only [inI64, List.length_cons, List.length_append, List.length_nil, List.length_set] at *; omega) | decide | (unfold inI64; decide)); conv => whnf)
      | omega | decide | assumption)
    refine LoopX.rule hT (C := []) (ι := Nat) (fun i => i ≤ a.length) (fun i => mkSt [(6, .buf 6), (7, .buf 7), (8, .buf 8), (9, .d (prgs m)), (57, .d (.int .i64 a.length)), (58, .d (.int .i64 i))]
      [(6, seqB 3 1 iF 0 (numL (newB m) b.length)), (7, seqB 3 1 iF 0 (numL (growB r a b m) b.length)), (8, seqB 3 1 iF 0 (numL (goneB m) i))]) (fun i => a.length - i) 0 (by omega) ?_ ?_
    · exact (Entails.nil 8 8 3 1 (rowF iF 0 []) rfl rfl (by decide)).trans (by refine Entails.mk' [(6, 6), (7, 7), (8, 8)] rfl rfl ?_ ?_ <;> repeat' (first | exact True.intro | exact SV.le_refl _ | exact Res.le_refl _ | exact SV.le_int (by omega) | exact SV.le_any _ | refine And.intro ?_ ?_))
    rintro i i1
    have hg1 := numL_succ (goneB m) i
    have hg2 := numL_len (goneB m) i
    have h146 := z146i i 182 m (by omega) (fun x => x.a == (i : Int)) (fun x _ => z182 x i)
    have hgone : goneB m i = !(m.any fun x => x.a == (i : Int)) := rfl
    generalize (m.any fun x => x.a == (i : Int)) = any at h146 hgone
    conv => whnf
    repeat' (first
      | (refine CallX.of h146 [(1000001, 12)] rfl ⟨SV.le_refl _, SV.le_refl _, trivial⟩ ⟨Res.le_refl _, trivial⟩ rfl rfl ?_; rintro x rout ⟨rfl, rfl⟩; refine ⟨rfl, ?_⟩; conv => whnf)
      | (refine br_intro (fun hb => ?_) (fun hb => ?_) <;> (try simp only [decide_eq_true_eq, decide_eq_false_iff_not, Bool.not_eq_true', Bool.not_eq_false', Bool.and_eq_true, Bool.or_eq_true, beq_iff_eq, not_and, Int.not_le, Int.not_lt, Int.toNat_natCast, beq_eq_false_iff_ne, ne_eq, eq_self, not_true_eq_false, not_false_eq_true] at hb) <;> (conv => whnf))
      | (refine RegX.rule (id := 8) hT rfl [] [(0, []), (1, [0]), (2, []), (3, []), (4, []), (5, [0, 1, 2, 3, 4]), (6, [0, 1, 2, 3, 4, 5]), (7, [0, 1, 2, 3, 4, 5, 6]), (8, [0, 1, 2, 3, 4, 5]), (9, [0, 1, 2, 3, 4, 5]), (10, [0, 1, 2, 3, 4, 5]), (11, [0, 1, 2, 3, 4]), (12, [0, 1, 2, 3, 4]), (13, [0, 1, 2, 3, 4]), (14, []), (15, [0, 1, 2, 3, 4, 5, 6, 7, 8, 9, 10, 11, 12, 13, 14]), (16, [0, 1, 2, 3, 4, 5, 6, 7, 8, 9, 10, 11, 12, 13, 14]), (17, []), (18, [])] (by decide +kernel) ?_; conv => whnf)
      | omega
      | (refine And.intro ?_ ?_; ((try dsimp only); first | omega | (refine ⟨by omega, by omega, Int.le_trans (Int.mul_le_mul_of_nonneg_right (Int.ofNat_le.2 (Nat.le_of_ble_eq_true (rfl : Nat.ble _ 1024 = true))) (by omega)) (by omega), by omega⟩) | (refine Nat.le_trans (Nat.mul_le_mul_left _ (Nat.le_of_ble_eq_true (rfl : Nat.ble _ 1024 = true))) ?_; omega) | (unfold inI64; omega) | (constructor <;> omega) | (simp only [inI64, List.length_cons, List.length_append, List.length_nil, List.length_set] at *; omega) | decide | (unfold inI64; decide)); conv => whnf)
      | omega | decide | assumption)
    · refine ⟨i + 1, by omega, by omega, ?_⟩
      rw [hg1, if_pos (by rw [hgone]; simpa using hb)]
      exact Entails.mk' [(6, 6), (7, 7), (8, 68)] rfl rfl ⟨SV.le_refl _, SV.le_refl _, SV.le_refl _, SV.le_refl _, SV.le_refl _, SV.le_refl _, trivial⟩ ⟨Res.le_refl _, Res.le_refl _, Res.le_snocF (x := (i : Int)) rfl, trivial⟩
    · refine ⟨i + 1, by omega, by omega, ?_⟩
      rw [hg1, if_neg (by rw [hgone]; simpa using hb)]
      exact Entails.mk' [(6, 6), (7, 7), (8, 8)] rfl rfl ⟨SV.le_refl _, SV.le_refl _, SV.le_refl _, SV.le_refl _, SV.le_refl _, SV.le_refl _, trivial⟩ ⟨Res.le_refl _, Res.le_refl _, Res.le_refl _, trivial⟩
    · obtain rfl : i = a.length := by omega
      refine .freeze _ 6 3 1 _ _ rfl (.freeze _ 7 3 1 _ _ rfl (.freeze _ 8 3 1 _ _ rfl (.weak _ ?_)))
      conv => whnf
      exact ⟨_, [], SV.le_refl _, ⟨rfl, rfl⟩, trivial⟩
-- MarksChange
set_option maxHeartbeats 4000000 in
theorem z11 (n : Nat) (L : Nat → Int) (hn : n ≤ maxLen) (hl : ∀ i, -2^63 ≤ L i ∧ L i < 2^63) : FSpec Tryz.prog 11 [.d (.ro 1 n fun i => [.int .i64 (L i)])] [] (fun x r => x = .d (.bool true) ∧ r = []) := by
  have hL : Rok n L := ⟨hn, hl⟩
  refine spec_of hT (C := []) Tryz.func11 rfl Tryz.call11 rfl rfl rfl ?_
  conv => whnf
  repeat' (first
    | (refine CallX.of (z46 n L hL 0 (by omega) (by omega)) [(1000000, 16)] rfl ⟨SV.le_refl _, trivial⟩ ⟨Res.le_refl _, trivial⟩ rfl rfl ?_; rintro x rout ⟨⟨p, z, m, o, q1, q2, q3, rfl⟩, ⟨c, c1, c2, rfl⟩⟩; have hp := pnOk_of q1 (by omega); have hm := mkOk_of q2 (by omega); have ho := mkOk_of q3 (by omega); refine ⟨rfl, ?_⟩; conv => whnf)
    | (refine br_intro (fun hb => ?_) (fun hb => ?_) <;> (try simp only [decide_eq_true_eq, decide_eq_false_iff_not, Bool.not_eq_true', Bool.not_eq_false', Bool.and_eq_true, Bool.or_eq_true, beq_iff_eq, not_and, Int.not_le, Int.not_lt, Int.toNat_natCast, beq_eq_false_iff_ne, ne_eq, eq_self, not_true_eq_false, not_false_eq_true] at hb) <;> (conv => whnf))
    | omega
    | (refine And.intro ?_ ?_; ((try dsimp only); first | omega | (refine ⟨by omega, by omega, Int.le_trans (Int.mul_le_mul_of_nonneg_right (Int.ofNat_le.2 (Nat.le_of_ble_eq_true (rfl : Nat.ble _ 1024 = true))) (by omega)) (by omega), by omega⟩) | (refine Nat.le_trans (Nat.mul_le_mul_left _ (Nat.le_of_ble_eq_true (rfl : Nat.ble _ 1024 = true))) ?_; omega) | (unfold inI64; omega) | (constructor <;> omega) | (simp only [inI64, List.length_cons, List.length_append, List.length_nil, List.length_set] at *; omega) | decide | (unfold inI64; decide)); conv => whnf)
    | omega | decide | assumption)
  have h76 := z76 p z m o hp hm ho
  have h77 := z77 p z m o hp hm ho
  have h78 := z78 p z m o hp hm ho
  unfold chV at h76 h77 h78
  by_cases hz : twoE p z m o = 0
  · rw [if_pos hz] at h76 h77 h78
    obtain ⟨h1, h2, h3, h4⟩ := twoE_zero hz
    have hma : mB m := onPE_mBd h3
    have hmb : mB o := onPE_mBd h4
    have hm1 := hma.1
    have ho1 := hmb.1
    have h79 := z79 z m o (rulE_bd h1) (mrks_inc (onPE_bd h3).1) hma hmb
    have k1 := numL_len (newB (mtL z m o)) o.length
    have k2 := numL_len (growB z m o (mtL z m o)) o.length
    have k3 := numL_len (goneB (mtL z m o)) m.length
    generalize numL (newB (mtL z m o)) o.length = l1 at h76 h79 k1
    generalize numL (growB z m o (mtL z m o)) o.length = l2 at h77 h79 k2
    generalize numL (goneB (mtL z m o)) m.length = l3 at h78 h79 k3
    have e1 := s37 l1 l1 (by omega) (by omega)
    have e2 := s37 l2 l2 (by omega) (by omega)
    have e3 := s37 l3 l3 (by omega) (by omega)
    rw [decide_eq_true rfl] at e1 e2 e3
    repeat' (first
      | (refine CallX.exact (h76) rfl rfl ?_; rotate_right; conv => whnf)
      | (refine CallX.exact (h77) rfl rfl ?_; rotate_right; conv => whnf)
      | (refine CallX.exact (h78) rfl rfl ?_; rotate_right; conv => whnf)
      | (refine CallX.exact (h79) rfl rfl ?_; rotate_right; conv => whnf)
      | (refine CallX.exact (e1) rfl rfl ?_; rotate_right; conv => whnf)
      | (refine CallX.exact (e2) rfl rfl ?_; rotate_right; conv => whnf)
      | (refine CallX.exact (e3) rfl rfl ?_; rotate_right; conv => whnf)
      | (refine CallX.exact (s42) rfl rfl ?_; rotate_right; conv => whnf)
      | (refine br_intro (fun hb => ?_) (fun hb => ?_) <;> (try simp only [decide_eq_true_eq, decide_eq_false_iff_not, Bool.not_eq_true', Bool.not_eq_false', Bool.and_eq_true, Bool.or_eq_true, beq_iff_eq, not_and, Int.not_le, Int.not_lt, Int.toNat_natCast, beq_eq_false_iff_ne, ne_eq, eq_self, not_true_eq_false, not_false_eq_true] at hb) <;> (conv => whnf))
      | omega
      | (refine And.intro ?_ ?_; ((try dsimp only); first | omega | (refine ⟨by omega, by omega, Int.le_trans (Int.mul_le_mul_of_nonneg_right (Int.ofNat_le.2 (Nat.le_of_ble_eq_true (rfl : Nat.ble _ 1024 = true))) (by omega)) (by omega), by omega⟩) | (refine Nat.le_trans (Nat.mul_le_mul_left _ (Nat.le_of_ble_eq_true (rfl : Nat.ble _ 1024 = true))) ?_; omega) | (unfold inI64; omega) | (constructor <;> omega) | (simp only [inI64, List.length_cons, List.length_append, List.length_nil, List.length_set] at *; omega) | decide | (unfold inI64; decide)); conv => whnf)
      | omega | decide | assumption)
    all_goals first
      | exact absurd hz (by assumption)
      | (refine .ret _ ?_
         conv => whnf
         refine ⟨[], ⟨?_, rfl⟩, trivial⟩
         conv => lhs; whnf
         all_goals rfl)
  · rw [if_neg hz] at h76 h77 h78
    generalize twoE p z m o = e at h76 h77 h78 hz ⊢
    repeat' (first
      | (refine CallX.exact (h76) rfl rfl ?_; rotate_right; conv => whnf)
      | (refine CallX.exact (h77) rfl rfl ?_; rotate_right; conv => whnf)
      | (refine CallX.exact (h78) rfl rfl ?_; rotate_right; conv => whnf)
      | (refine CallX.exact (s42) rfl rfl ?_; rotate_right; conv => whnf)
      | (refine br_intro (fun hb => ?_) (fun hb => ?_) <;> (try simp only [decide_eq_true_eq, decide_eq_false_iff_not, Bool.not_eq_true', Bool.not_eq_false', Bool.and_eq_true, Bool.or_eq_true, beq_iff_eq, not_and, Int.not_le, Int.not_lt, Int.toNat_natCast, beq_eq_false_iff_ne, ne_eq, eq_self, not_true_eq_false, not_false_eq_true] at hb) <;> (conv => whnf))
      | omega
      | (refine And.intro ?_ ?_; ((try dsimp only); first | omega | (refine ⟨by omega, by omega, Int.le_trans (Int.mul_le_mul_of_nonneg_right (Int.ofNat_le.2 (Nat.le_of_ble_eq_true (rfl : Nat.ble _ 1024 = true))) (by omega)) (by omega), by omega⟩) | (refine Nat.le_trans (Nat.mul_le_mul_left _ (Nat.le_of_ble_eq_true (rfl : Nat.ble _ 1024 = true))) ?_; omega) | (unfold inI64; omega) | (constructor <;> omega) | (simp only [inI64, List.length_cons, List.length_append, List.length_nil, List.length_set] at *; omega) | decide | (unfold inI64; decide)); conv => whnf)
      | omega | decide | assumption)
    all_goals first
      | exact absurd (by assumption) hz
      | (refine .ret _ ?_
         conv => whnf
         refine ⟨[], ⟨?_, rfl⟩, trivial⟩
         conv => lhs; whnf
         all_goals rfl)
end Go.Proofs.YtnkdlkgannnfhaaGreatDoor
