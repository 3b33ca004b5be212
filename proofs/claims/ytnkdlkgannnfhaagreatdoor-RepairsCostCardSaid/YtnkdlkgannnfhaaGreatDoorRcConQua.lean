/- RepairsCost is proved: for every input the law returns true, and its argument reads afterwards as it read before. Conditions: those of the given row alone. -/
import Derived.Test.YtnkdlkgannnfhaaGreatDoorRcConTri
set_option linter.unusedVariables false
set_option linter.unusedSimpArgs false
set_option maxRecDepth 20000
namespace Go.Proofs.YtnkdlkgannnfhaaGreatDoor
open Go Go.Eng
def cosE (q : List Rep) (p : List Pnl) (r : Rul) (l : List Mrk) : Int := firstE [rulE r, repsE q, mrksPE p l]
theorem cosE_zero {q : List Rep} {p : List Pnl} {r : Rul} {l : List Mrk} (h : cosE q p r l = 0) : rulE r = 0 ∧ repsE q = 0 ∧ pansE p = 0 ∧ onPE p l = 0 := by
  unfold cosE mrksPE at h
  simp only [firstE] at h
  grind
noncomputable abbrev GI (r : Rul) (l : List Mrk) : List (List Int) := grI r l l.length
noncomputable def cosV (q : List Rep) (p : List Pnl) (r : Rul) (l : List Mrk) : SV := if cosE q p r l = 0 then .tup [.d (ints (outL q r l (GI r l) p p.length)), .d (.int .i64 (allN q r l (GI r l) p p.length)), .d (.int .i64 0)] else .tup [.d .nilsl, .d (.int .i64 0), .d (.int .i64 (cosE q p r l))]
-- mark.Estimate
set_option maxHeartbeats 4000000 in
theorem z85 (p : List Pnl) (r : Rul) (q : List Rep) (l : List Mrk) (hp : pnOk p) (hq : reOk q) (hk : mkOk l) (hl12 : l.length ≤ 12) : FSpec Tryz.prog 85 [.d (pnls p), .agg ((ruF r).map .d), .d (reps q), .d (mrks l)] [] (fun x r' => x = cosV q p r l ∧ r' = []) := by
  have h105 := s105 [rulE r, repsE q, mrksPE p l] (by simp)
  unfold cosV
  by_cases hz : ¬ (cosE q p r l = 0)
  · rw [if_neg hz]
    rw [show firstE [rulE r, repsE q, mrksPE p l] = cosE q p r l from rfl] at h105
    generalize cosE q p r l = e at h105 hz
    refine spec_of hT (C := []) Tryz.func85 rfl Tryz.call85 rfl rfl rfl ?_
    conv => whnf
    repeat' (first
      | (refine CallX.exact (s102 r) rfl rfl ?_; rotate_right; conv => whnf)
      | (refine CallX.exact (s100 p l hp hk) rfl rfl ?_; rotate_right; conv => whnf)
      | (refine CallX.exact (z94 q hq) rfl rfl ?_; rotate_right; conv => whnf)
      | (refine CallX.pure h105 ⟨SV.le_lit (by rfl) (by rfl), trivial⟩ rfl ?_; conv => whnf)
      | (refine br_intro (fun hb => ?_) (fun hb => ?_) <;> (try simp only [decide_eq_true_eq, decide_eq_false_iff_not, Bool.not_eq_true', Bool.not_eq_false', Bool.and_eq_true, Bool.or_eq_true, beq_iff_eq, not_and, Int.not_le, Int.not_lt, Int.toNat_natCast, beq_eq_false_iff_ne, ne_eq, eq_self, not_true_eq_false, not_false_eq_true] at hb) <;> (conv => whnf))
      | (refine RegX.rule (id := 1) hT rfl [] [(0, []), (2, [0]), (4, [0, 2]), (5, [0, 2, 4]), (1, [2, 4, 5]), (3, [4, 5]), (6, []), (7, []), (8, []), (9, [])] (by decide +kernel) ?_; conv => whnf)
      | (refine RegX.rule (id := 16) hT rfl [] [(0, []), (1, [0]), (2, []), (3, []), (4, [0, 1, 2, 3]), (5, [0, 1, 2, 3, 4]), (6, [0, 1, 2, 3, 4]), (7, [0, 1, 2, 3, 4, 5, 6]), (8, [0, 1, 2, 3, 4, 5, 6, 7]), (9, [0, 1, 2, 3, 4, 5, 6]), (10, [0, 1, 2, 3, 4]), (11, [0, 1, 2, 3, 4]), (12, [0, 1, 2, 3]), (13, []), (14, []), (15, [])] (by decide +kernel) ?_; conv => whnf)
      | (refine RegX.rule (id := 22) hT rfl [] [(0, []), (1, [0]), (2, [0, 1]), (3, [0, 1, 2]), (4, [0, 1]), (5, [0, 1]), (6, [0, 1, 2, 3, 4, 5]), (7, [0, 1, 2, 3, 4, 5, 6]), (8, [0, 1, 2, 3, 4, 5]), (9, [0, 1, 2, 3, 4, 5]), (10, [0, 1, 2, 3, 4, 5]), (11, [0, 1]), (12, []), (13, [])] (by decide +kernel) ?_; conv => whnf)
      | omega
      | (refine And.intro ?_ ?_; ((try dsimp only); first | omega | (refine ⟨by omega, by omega, Int.le_trans (Int.mul_le_mul_of_nonneg_right (Int.ofNat_le.2 (Nat.le_of_ble_eq_true (rfl : Nat.ble _ 1024 = true))) (by omega)) (by omega), by omega⟩) | (refine Nat.le_trans (Nat.mul_le_mul_left _ (Nat.le_of_ble_eq_true (rfl : Nat.ble _ 1024 = true))) ?_; omega) | (unfold inI64; omega) | (constructor <;> omega) | (simp only [inI64, List.length_cons, List.length_append, List.length_nil, List.length_set] at *; omega) | decide | (unfold inI64; decide)); conv => whnf)
      | omega | decide | assumption)
    refine .ret _ ?_
    conv => whnf
    refine ⟨[], ⟨congrArg SV.tup ?_, rfl⟩, trivial⟩
    repeat' (refine cons_eq ?_ ?_)
    all_goals (conv => lhs; whnf)
    all_goals try (with_reducible rfl)
    all_goals rfl
  have hz : cosE q p r l = 0 := Decidable.not_not.1 hz
  rw [if_pos hz]
  rw [show firstE [rulE r, repsE q, mrksPE p l] = 0 from hz] at h105
  obtain ⟨hz1, hz2, hz3, hz4⟩ := cosE_zero hz
  have hr := rulE_bd hz1
  have hmB := onPE_mBd hz4
  have h191 := z191 r l hr hl12 hmB.2
  have hp40 := (panE_pr hz3).1
  have hGl := grI_len r l l.length
  have hGn : (GI r l).length ≤ 12 := Nat.le_trans hGl hl12
  have hGa := grI_all r l l.length
  have hG12 : ∀ g ∈ GI r l, g.length ≤ 12 := fun g hg => Nat.le_trans (hGa g hg).1 hl12
  have hest := fun key => est_bd hz2 hr l hG12 key
  have hps : ∀ j, j < p.length → 0 ≤ outS q r l (GI r l) p j ∧ outS q r l (GI r l) p j ≤ 1000000 := fun j hj => by
    have h1 := hest (p.getD j pn0).key (GI r l).length (Nat.le_refl _)
    have h2 := (panE_pr hz3).2 j hj
    unfold outS
    omega
  have hall := all_bd hps
  refine spec_of hT (C := []) Tryz.func85 rfl Tryz.call85 rfl rfl rfl ?_
  conv => whnf
  repeat' (first
    | (refine CallX.exact (s102 r) rfl rfl ?_; rotate_right; conv => whnf)
    | (refine CallX.exact (s100 p l hp hk) rfl rfl ?_; rotate_right; conv => whnf)
    | (refine CallX.exact (z94 q hq) rfl rfl ?_; rotate_right; conv => whnf)
    | (refine CallX.pure h105 ⟨SV.le_lit (by rfl) (by rfl), trivial⟩ rfl ?_; conv => whnf)
    | (refine CallX.exact (h191) rfl rfl ?_; rotate_right; conv => whnf)
    | (refine br_intro (fun hb => ?_) (fun hb => ?_) <;> (try simp only [decide_eq_true_eq, decide_eq_false_iff_not, Bool.not_eq_true', Bool.not_eq_false', Bool.and_eq_true, Bool.or_eq_true, beq_iff_eq, not_and, Int.not_le, Int.not_lt, Int.toNat_natCast, beq_eq_false_iff_ne, ne_eq, eq_self, not_true_eq_false, not_false_eq_true] at hb) <;> (conv => whnf))
    | (refine RegX.rule (id := 1) hT rfl [] [(0, []), (2, [0]), (4, [0, 2]), (5, [0, 2, 4]), (1, [2, 4, 5]), (3, [4, 5]), (6, []), (7, []), (8, []), (9, [])] (by decide +kernel) ?_; conv => whnf)
    | (refine RegX.rule (id := 16) hT rfl [] [(0, []), (1, [0]), (2, []), (3, []), (4, [0, 1, 2, 3]), (5, [0, 1, 2, 3, 4]), (6, [0, 1, 2, 3, 4]), (7, [0, 1, 2, 3, 4, 5, 6]), (8, [0, 1, 2, 3, 4, 5, 6, 7]), (9, [0, 1, 2, 3, 4, 5, 6]), (10, [0, 1, 2, 3, 4]), (11, [0, 1, 2, 3, 4]), (12, [0, 1, 2, 3]), (13, []), (14, []), (15, [])] (by decide +kernel) ?_; conv => whnf)
    | (refine RegX.rule (id := 22) hT rfl [] [(0, []), (1, [0]), (2, [0, 1]), (3, [0, 1, 2]), (4, [0, 1]), (5, [0, 1]), (6, [0, 1, 2, 3, 4, 5]), (7, [0, 1, 2, 3, 4, 5, 6]), (8, [0, 1, 2, 3, 4, 5]), (9, [0, 1, 2, 3, 4, 5]), (10, [0, 1, 2, 3, 4, 5]), (11, [0, 1]), (12, []), (13, [])] (by decide +kernel) ?_; conv => whnf)
    | omega
    | (refine And.intro ?_ ?_; ((try dsimp only); first | omega | (refine ⟨by omega, by omega, Int.le_trans (Int.mul_le_mul_of_nonneg_right (Int.ofNat_le.2 (Nat.le_of_ble_eq_true (rfl : Nat.ble _ 1024 = true))) (by omega)) (by omega), by omega⟩) | (refine Nat.le_trans (Nat.mul_le_mul_left _ (Nat.le_of_ble_eq_true (rfl : Nat.ble _ 1024 = true))) ?_; omega) | (unfold inI64; omega) | (constructor <;> omega) | (simp only [inI64, List.length_cons, List.length_append, List.length_nil, List.length_set] at *; omega) | decide | (unfold inI64; decide)); conv => whnf)
    | omega | decide | assumption)
  refine LoopX.rule hT (C := []) (ι := Nat × List Int) (fun (t, o) => t ≤ (GI r l).length ∧ o.length = p.length ∧ ∀ j, j < p.length → o.getD j 0 = estN q r l (GI r l) (p.getD j pn0).key t)
    (fun (t, o) => mkSt [(0, .d (pnls p)), (2, .d (reps q)), (5, .ptr 5 0), (7, .ptr 7 0), (12, .buf 12), (40, .d (grs (GI r l))), (41, .d (.int .i64 (GI r l).length)), (42, .d (.int .i64 t))] [(5, .cells 76 ((ruF r).map .d)), (7, lcell l), (12, seqB 3 1 iF 0 o)])
    (fun (t, _) => (GI r l).length - t) (0, List.replicate p.length 0) ⟨by simp, by simp, fun j hj => ?_⟩ ?_ ?_
  · rw [List.getD_eq_getElem?_getD]; simp [hj, estN]
  · refine Entails.mk' [(5, 5), (7, 7), (12, 37)] rfl rfl ⟨SV.le_refl _, SV.le_refl _, SV.le_refl _, SV.le_refl _, SV.le_refl _, SV.le_refl _, SV.le_refl _, SV.le_refl _, trivial⟩ ⟨Res.le_refl _, Res.le_refl _, Res.le_buf (by simp) (fun i hi => ?_), trivial⟩
    have hi' : i < p.length := by simpa using hi
    simp only [rowF]
    rw [List.getD_eq_getElem?_getD]; simp [hi']; rfl
  rintro ⟨t, o⟩ ⟨t1, t2, t3⟩
  have t1 : t ≤ (GI r l).length := t1
  have t2 : o.length = p.length := t2
  have e1 : (t : Int).toNat = t := Int.toNat_natCast t
  by_cases ht : t < (GI r l).length
  · have hgm : (GI r l).getD t [] ∈ GI r l := getD_mem ht
    obtain ⟨g1, g2, g3⟩ := hGa _ hgm
    have hes : ∀ key, estN q r l (GI r l) key (t + 1) = if panG l ((GI r l).getD t []) = key then estN q r l (GI r l) key t + amtI q r l ((GI r l).getD t []) else estN q r l (GI r l) key t := fun _ => rfl
    generalize hg : (GI r l).getD t [] = g at g1 g2 g3 hes hgm
    have hg' : (GI r l).getD (t : Int).toNat [] = g := hg
    have hmost := most_bd hz2 l g
    have hpg0 := g3 0 g2
    have hix0 : 0 ≤ panIx p (panG l g) := onPE_pan hz4 _ hpg0.2
    have hix1 := panIx_lt p (panG l g)
    have hhit := panIx_hit hix0
    have hamt := amt_bd hz2 hr l (hG12 _ hgm)
    have hamt2 : 0 ≤ mostN q l g g.length + (r.part * (sumN q l g g.length - mostN q l g g.length)).tdiv 1000 ∧ mostN q l g g.length + (r.part * (sumN q l g g.length - mostN q l g g.length)).tdiv 1000 ≤ 13000000 := hamt
    have hprod := prod_bd (a := r.part) (b := sumN q l g g.length - mostN q l g g.length) (by unfold rBd at hr; omega) (by unfold rBd at hr; omega) (by have := hmost g.length; omega)
    have hmg := hmost g.length
    have hok : 0 ≤ o.getD (panIx p (panG l g)).toNat 0 ∧ o.getD (panIx p (panG l g)).toNat 0 ≤ 13000000 * t := by
      rw [t3 _ (by omega)]; exact hest _ t (by omega)
    have h193 := z193 p hp.1 l g g2 hpg0.1 hpg0.2
    conv => whnf
    repeat' (first
      | (refine br_intro (fun hb => ?_) (fun hb => ?_) <;> (try simp only [decide_eq_true_eq, decide_eq_false_iff_not, Bool.not_eq_true', Bool.not_eq_false', Bool.and_eq_true, Bool.or_eq_true, beq_iff_eq, not_and, Int.not_le, Int.not_lt, Int.toNat_natCast, beq_eq_false_iff_ne, ne_eq, eq_self, not_true_eq_false, not_false_eq_true] at hb) <;> (conv => whnf))
      | (refine RegX.rule (id := 1) hT rfl [] [(0, []), (2, [0]), (4, [0, 2]), (5, [0, 2, 4]), (1, [2, 4, 5]), (3, [4, 5]), (6, []), (7, []), (8, []), (9, [])] (by decide +kernel) ?_; conv => whnf)
      | (refine RegX.rule (id := 16) hT rfl [] [(0, []), (1, [0]), (2, []), (3, []), (4, [0, 1, 2, 3]), (5, [0, 1, 2, 3, 4]), (6, [0, 1, 2, 3, 4]), (7, [0, 1, 2, 3, 4, 5, 6]), (8, [0, 1, 2, 3, 4, 5, 6, 7]), (9, [0, 1, 2, 3, 4, 5, 6]), (10, [0, 1, 2, 3, 4]), (11, [0, 1, 2, 3, 4]), (12, [0, 1, 2, 3]), (13, []), (14, []), (15, [])] (by decide +kernel) ?_; conv => whnf)
      | (refine RegX.rule (id := 22) hT rfl [] [(0, []), (1, [0]), (2, [0, 1]), (3, [0, 1, 2]), (4, [0, 1]), (5, [0, 1]), (6, [0, 1, 2, 3, 4, 5]), (7, [0, 1, 2, 3, 4, 5, 6]), (8, [0, 1, 2, 3, 4, 5]), (9, [0, 1, 2, 3, 4, 5]), (10, [0, 1, 2, 3, 4, 5]), (11, [0, 1]), (12, []), (13, [])] (by decide +kernel) ?_; conv => whnf)
      | omega
      | (refine And.intro ?_ ?_; ((try dsimp only); first | omega | (refine ⟨by omega, by omega, Int.le_trans (Int.mul_le_mul_of_nonneg_right (Int.ofNat_le.2 (Nat.le_of_ble_eq_true (rfl : Nat.ble _ 1024 = true))) (by omega)) (by omega), by omega⟩) | (refine Nat.le_trans (Nat.mul_le_mul_left _ (Nat.le_of_ble_eq_true (rfl : Nat.ble _ 1024 = true))) ?_; omega) | (unfold inI64; omega) | (constructor <;> omega) | (simp only [inI64, List.length_cons, List.length_append, List.length_nil, List.length_set] at *; omega) | decide | (unfold inI64; decide)); conv => whnf)
      | omega | decide | assumption)
    refine LoopX.rule hT (C := []) (ι := Nat) (fun i => i ≤ g.length) (fun i => mkSt [(0, .d (pnls p)), (2, .d (reps q)), (5, .ptr 5 0), (7, .ptr 7 0), (12, .buf 12), (14, .ptr 14 0), (15, .d (.int .i64 (mostN q l g i))), (16, .d (.int .i64 (sumN q l g i))), (40, .d (grs (GI r l))), (41, .d (.int .i64 (GI r l).length)), (42, .d (.int .i64 t)), (46, .d (ints g)), (47, .d (.int .i64 g.length)), (48, .d (.int .i64 i))]
      [(5, .cells 76 ((ruF r).map .d)), (7, lcell l), (12, seqB 3 1 iF 0 o), (14, gcell g)]) (fun i => g.length - i) 0 (by omega) ?_ ?_
    · subst hg
      exact Entails.mk' [(5, 5), (7, 7), (12, 12), (14, 14)] rfl rfl ⟨SV.le_refl _, SV.le_refl _, SV.le_refl _, SV.le_refl _, SV.le_refl _, SV.le_refl _, SV.le_refl _, SV.le_refl _, SV.le_refl _, SV.le_refl _, SV.le_refl _, SV.le_refl _, SV.le_refl _, SV.le_refl _, trivial⟩ ⟨Res.le_refl _, Res.le_refl _, Res.le_refl _, Res.le_refl _, trivial⟩
    rintro i i1
    have e2 : (i : Int).toNat = i := Int.toNat_natCast i
    have hmi := hmost i
    have hms : mostN q l g (i + 1) = max (mostN q l g i) (price q (l.getD (g.getD i 0).toNat mk0)) := rfl
    have hss : sumN q l g (i + 1) = sumN q l g i + price q (l.getD (g.getD i 0).toNat mk0) := rfl
    have hgi := fun (h : i < g.length) => g3 i h
    have hpb := price_bd hz2 (l.getD (g.getD (i : Int).toNat 0).toNat mk0)
    by_cases hi : i < g.length
    · have hgi := hgi hi
      have hgi2 : 0 ≤ g.getD (i : Int).toNat 0 ∧ g.getD (i : Int).toNat 0 < (l.length : Int) := ⟨hgi.1, by show g.getD i 0 < _; omega⟩
      conv => whnf
      repeat' (first
        | (refine CallX.exact (z192 q (l.getD (g.getD (i : Int).toNat 0).toNat mk0) hq.1) rfl rfl ?_; rotate_right; conv => whnf)
        | (refine br_intro (fun hb => ?_) (fun hb => ?_) <;> (try simp only [decide_eq_true_eq, decide_eq_false_iff_not, Bool.not_eq_true', Bool.not_eq_false', Bool.and_eq_true, Bool.or_eq_true, beq_iff_eq, not_and, Int.not_le, Int.not_lt, Int.toNat_natCast, beq_eq_false_iff_ne, ne_eq, eq_self, not_true_eq_false, not_false_eq_true] at hb) <;> (conv => whnf))
        | (refine RegX.rule (id := 1) hT rfl [] [(0, []), (2, [0]), (4, [0, 2]), (5, [0, 2, 4]), (1, [2, 4, 5]), (3, [4, 5]), (6, []), (7, []), (8, []), (9, [])] (by decide +kernel) ?_; conv => whnf)
        | (refine RegX.rule (id := 16) hT rfl [] [(0, []), (1, [0]), (2, []), (3, []), (4, [0, 1, 2, 3]), (5, [0, 1, 2, 3, 4]), (6, [0, 1, 2, 3, 4]), (7, [0, 1, 2, 3, 4, 5, 6]), (8, [0, 1, 2, 3, 4, 5, 6, 7]), (9, [0, 1, 2, 3, 4, 5, 6]), (10, [0, 1, 2, 3, 4]), (11, [0, 1, 2, 3, 4]), (12, [0, 1, 2, 3]), (13, []), (14, []), (15, [])] (by decide +kernel) ?_; conv => whnf)
        | (refine RegX.rule (id := 22) hT rfl [] [(0, []), (1, [0]), (2, [0, 1]), (3, [0, 1, 2]), (4, [0, 1]), (5, [0, 1]), (6, [0, 1, 2, 3, 4, 5]), (7, [0, 1, 2, 3, 4, 5, 6]), (8, [0, 1, 2, 3, 4, 5]), (9, [0, 1, 2, 3, 4, 5]), (10, [0, 1, 2, 3, 4, 5]), (11, [0, 1]), (12, []), (13, [])] (by decide +kernel) ?_; conv => whnf)
        | omega
        | (refine And.intro ?_ ?_; ((try dsimp only); first | omega | (refine ⟨by omega, by omega, Int.le_trans (Int.mul_le_mul_of_nonneg_right (Int.ofNat_le.2 (Nat.le_of_ble_eq_true (rfl : Nat.ble _ 1024 = true))) (by omega)) (by omega), by omega⟩) | (refine Nat.le_trans (Nat.mul_le_mul_left _ (Nat.le_of_ble_eq_true (rfl : Nat.ble _ 1024 = true))) ?_; omega) | (unfold inI64; omega) | (constructor <;> omega) | (simp only [inI64, List.length_cons, List.length_append, List.length_nil, List.length_set] at *; omega) | decide | (unfold inI64; decide)); conv => whnf)
        | omega | decide | assumption)
      refine ⟨i + 1, by omega, by omega, ?_⟩
      rw [hms, hss]
      exact Entails.mk' [(5, 5), (7, 7), (12, 12), (14, 14)] rfl rfl ⟨SV.le_refl _, SV.le_refl _, SV.le_refl _, SV.le_refl _, SV.le_refl _, SV.le_refl _, SV.le_refl _, SV.le_refl _, SV.le_refl _, SV.le_refl _, SV.le_refl _, SV.le_refl _, SV.le_refl _, SV.le_refl _, trivial⟩ ⟨Res.le_refl _, Res.le_refl _, Res.le_refl _, Res.le_refl _, trivial⟩
    · obtain rfl : i = g.length := by omega
      conv => whnf
      repeat' (first
        | (refine CallX.of h193 [(1000001, 7), (1000002, 14)] rfl ⟨SV.le_refl _, SV.le_refl _, trivial⟩ ⟨Res.le_refl _, Res.le_refl _, trivial⟩ rfl rfl ?_; rintro x rout ⟨rfl, rfl⟩; refine ⟨rfl, ?_⟩; conv => whnf)
        | (refine br_intro (fun hb => ?_) (fun hb => ?_) <;> (try simp only [decide_eq_true_eq, decide_eq_false_iff_not, Bool.not_eq_true', Bool.not_eq_false', Bool.and_eq_true, Bool.or_eq_true, beq_iff_eq, not_and, Int.not_le, Int.not_lt, Int.toNat_natCast, beq_eq_false_iff_ne, ne_eq, eq_self, not_true_eq_false, not_false_eq_true] at hb) <;> (conv => whnf))
        | (refine RegX.rule (id := 1) hT rfl [] [(0, []), (2, [0]), (4, [0, 2]), (5, [0, 2, 4]), (1, [2, 4, 5]), (3, [4, 5]), (6, []), (7, []), (8, []), (9, [])] (by decide +kernel) ?_; conv => whnf)
        | (refine RegX.rule (id := 16) hT rfl [] [(0, []), (1, [0]), (2, []), (3, []), (4, [0, 1, 2, 3]), (5, [0, 1, 2, 3, 4]), (6, [0, 1, 2, 3, 4]), (7, [0, 1, 2, 3, 4, 5, 6]), (8, [0, 1, 2, 3, 4, 5, 6, 7]), (9, [0, 1, 2, 3, 4, 5, 6]), (10, [0, 1, 2, 3, 4]), (11, [0, 1, 2, 3, 4]), (12, [0, 1, 2, 3]), (13, []), (14, []), (15, [])] (by decide +kernel) ?_; conv => whnf)
        | (refine RegX.rule (id := 22) hT rfl [] [(0, []), (1, [0]), (2, [0, 1]), (3, [0, 1, 2]), (4, [0, 1]), (5, [0, 1]), (6, [0, 1, 2, 3, 4, 5]), (7, [0, 1, 2, 3, 4, 5, 6]), (8, [0, 1, 2, 3, 4, 5]), (9, [0, 1, 2, 3, 4, 5]), (10, [0, 1, 2, 3, 4, 5]), (11, [0, 1]), (12, []), (13, [])] (by decide +kernel) ?_; conv => whnf)
        | omega
        | (refine And.intro ?_ ?_; ((try dsimp only); first | omega | (refine ⟨by omega, by omega, Int.le_trans (Int.mul_le_mul_of_nonneg_right (Int.ofNat_le.2 (Nat.le_of_ble_eq_true (rfl : Nat.ble _ 1024 = true))) (by omega)) (by omega), by omega⟩) | (refine Nat.le_trans (Nat.mul_le_mul_left _ (Nat.le_of_ble_eq_true (rfl : Nat.ble _ 1024 = true))) ?_; omega) | (unfold inI64; omega) | (constructor <;> omega) | (simp only [inI64, List.length_cons, List.length_append, List.length_nil, List.length_set] at *; omega) | decide | (unfold inI64; decide)); conv => whnf)
        | omega | decide | assumption)
      refine ⟨(t + 1, o.set (panIx p (panG l g)).toNat (o.getD (panIx p (panG l g)).toNat 0 + amtI q r l g)), ⟨by omega, by simp [t2], fun j hj => ?_⟩, (show (GI r l).length - (t + 1) < (GI r l).length - t by omega), Entails.mk' [(5, 5), (7, 7), (12, 12)] rfl rfl ⟨SV.le_refl _, SV.le_refl _, SV.le_refl _, SV.le_refl _, SV.le_refl _, SV.le_refl _, SV.le_refl _, SV.le_refl _, trivial⟩ ⟨Res.le_refl _, Res.le_refl _, Res.le_upd (fun _ => o.getD (panIx p (panG l g)).toNat 0 + amtI q r l g) (fun _ => rfl), trivial⟩⟩
      rw [hes, List.getD_eq_getElem?_getD, List.getElem?_set]
      by_cases hj2 : (panIx p (panG l g)).toNat = j
      · rw [if_pos hj2, if_pos (by omega), if_pos (by rw [← hj2]; exact hhit.symm)]
        rw [hj2, t3 j hj]; rfl
      · rw [if_neg hj2, if_neg (fun e => hj2 (pan_uniq hz3 (by omega) hj (by rw [hhit]; exact e))), ← List.getD_eq_getElem?_getD, t3 j hj]
  · obtain rfl : t = (GI r l).length := by omega
    conv => whnf
    repeat' (first
      | (refine br_intro (fun hb => ?_) (fun hb => ?_) <;> (try simp only [decide_eq_true_eq, decide_eq_false_iff_not, Bool.not_eq_true', Bool.not_eq_false', Bool.and_eq_true, Bool.or_eq_true, beq_iff_eq, not_and, Int.not_le, Int.not_lt, Int.toNat_natCast, beq_eq_false_iff_ne, ne_eq, eq_self, not_true_eq_false, not_false_eq_true] at hb) <;> (conv => whnf))
      | (refine RegX.rule (id := 1) hT rfl [] [(0, []), (2, [0]), (4, [0, 2]), (5, [0, 2, 4]), (1, [2, 4, 5]), (3, [4, 5]), (6, []), (7, []), (8, []), (9, [])] (by decide +kernel) ?_; conv => whnf)
      | (refine RegX.rule (id := 16) hT rfl [] [(0, []), (1, [0]), (2, []), (3, []), (4, [0, 1, 2, 3]), (5, [0, 1, 2, 3, 4]), (6, [0, 1, 2, 3, 4]), (7, [0, 1, 2, 3, 4, 5, 6]), (8, [0, 1, 2, 3, 4, 5, 6, 7]), (9, [0, 1, 2, 3, 4, 5, 6]), (10, [0, 1, 2, 3, 4]), (11, [0, 1, 2, 3, 4]), (12, [0, 1, 2, 3]), (13, []), (14, []), (15, [])] (by decide +kernel) ?_; conv => whnf)
      | (refine RegX.rule (id := 22) hT rfl [] [(0, []), (1, [0]), (2, [0, 1]), (3, [0, 1, 2]), (4, [0, 1]), (5, [0, 1]), (6, [0, 1, 2, 3, 4, 5]), (7, [0, 1, 2, 3, 4, 5, 6]), (8, [0, 1, 2, 3, 4, 5]), (9, [0, 1, 2, 3, 4, 5]), (10, [0, 1, 2, 3, 4, 5]), (11, [0, 1]), (12, []), (13, [])] (by decide +kernel) ?_; conv => whnf)
      | omega
      | (refine And.intro ?_ ?_; ((try dsimp only); first | omega | (refine ⟨by omega, by omega, Int.le_trans (Int.mul_le_mul_of_nonneg_right (Int.ofNat_le.2 (Nat.le_of_ble_eq_true (rfl : Nat.ble _ 1024 = true))) (by omega)) (by omega), by omega⟩) | (refine Nat.le_trans (Nat.mul_le_mul_left _ (Nat.le_of_ble_eq_true (rfl : Nat.ble _ 1024 = true))) ?_; omega) | (unfold inI64; omega) | (constructor <;> omega) | (simp only [inI64, List.length_cons, List.length_append, List.length_nil, List.length_set] at *; omega) | decide | (unfold inI64; decide)); conv => whnf)
      | omega | decide | assumption)
    refine LoopX.rule hT (C := []) (ι := Nat × List Int) (fun (k, o) => k ≤ p.length ∧ o.length = p.length ∧ ∀ j, j < p.length → o.getD j 0 = if j < k then outS q r l (GI r l) p j else estN q r l (GI r l) (p.getD j pn0).key (GI r l).length)
      (fun (k, o) => mkSt [(0, .d (pnls p)), (12, .buf 12), (21, .d (.int .i64 (allN q r l (GI r l) p k))), (85, .d (.int .i64 p.length)), (86, .d (.int .i64 k))] [(12, seqB 3 1 iF 0 o)]) (fun (k, _) => p.length - k) (0, o) ⟨by simp, t2, fun j hj => ?_⟩ ?_ ?_
    · rw [if_neg (by omega)]; exact t3 j hj
    · exact Entails.mk' [(12, 12)] rfl rfl ⟨SV.le_refl _, SV.le_refl _, SV.le_refl _, SV.le_int (by omega), SV.le_refl _, trivial⟩ ⟨Res.le_refl _, trivial⟩
    rintro ⟨k, o⟩ ⟨k1, k2, k3⟩
    have k1 : k ≤ p.length := k1
    have k2 : o.length = p.length := k2
    have e3 : (k : Int).toNat = k := Int.toNat_natCast k
    have has : allN q r l (GI r l) p (k + 1) = allN q r l (GI r l) p k + outS q r l (GI r l) p k := rfl
    have hak := hall k k1
    by_cases hk2 : k < p.length
    · have hok : o.getD k 0 = estN q r l (GI r l) (p.getD k pn0).key (GI r l).length := by rw [k3 k hk2, if_neg (by omega)]
      have hos : outS q r l (GI r l) p k = min (o.getD k 0) (p.getD k pn0).pr := by rw [hok]; rfl
      have hpk := hps k hk2
      rw [hos] at hpk
      have hgs : (o.set k (min (o.getD k 0) (p.getD k pn0).pr)).getD k 0 = min (o.getD k 0) (p.getD k pn0).pr := by
        rw [List.getD_eq_getElem?_getD, List.getElem?_set_self (by omega)]; rfl
      conv => whnf
      repeat' (first
        | (refine br_intro (fun hb => ?_) (fun hb => ?_) <;> (try simp only [decide_eq_true_eq, decide_eq_false_iff_not, Bool.not_eq_true', Bool.not_eq_false', Bool.and_eq_true, Bool.or_eq_true, beq_iff_eq, not_and, Int.not_le, Int.not_lt, Int.toNat_natCast, beq_eq_false_iff_ne, ne_eq, eq_self, not_true_eq_false, not_false_eq_true] at hb) <;> (conv => whnf))
        | (refine RegX.rule (id := 1) hT rfl [] [(0, []), (2, [0]), (4, [0, 2]), (5, [0, 2, 4]), (1, [2, 4, 5]), (3, [4, 5]), (6, []), (7, []), (8, []), (9, [])] (by decide +kernel) ?_; conv => whnf)
        | (refine RegX.rule (id := 16) hT rfl [] [(0, []), (1, [0]), (2, []), (3, []), (4, [0, 1, 2, 3]), (5, [0, 1, 2, 3, 4]), (6, [0, 1, 2, 3, 4]), (7, [0, 1, 2, 3, 4, 5, 6]), (8, [0, 1, 2, 3, 4, 5, 6, 7]), (9, [0, 1, 2, 3, 4, 5, 6]), (10, [0, 1, 2, 3, 4]), (11, [0, 1, 2, 3, 4]), (12, [0, 1, 2, 3]), (13, []), (14, []), (15, [])] (by decide +kernel) ?_; conv => whnf)
        | (refine RegX.rule (id := 22) hT rfl [] [(0, []), (1, [0]), (2, [0, 1]), (3, [0, 1, 2]), (4, [0, 1]), (5, [0, 1]), (6, [0, 1, 2, 3, 4, 5]), (7, [0, 1, 2, 3, 4, 5, 6]), (8, [0, 1, 2, 3, 4, 5]), (9, [0, 1, 2, 3, 4, 5]), (10, [0, 1, 2, 3, 4, 5]), (11, [0, 1]), (12, []), (13, [])] (by decide +kernel) ?_; conv => whnf)
        | omega
        | (refine And.intro ?_ ?_; ((try dsimp only); first | omega | (refine ⟨by omega, by omega, Int.le_trans (Int.mul_le_mul_of_nonneg_right (Int.ofNat_le.2 (Nat.le_of_ble_eq_true (rfl : Nat.ble _ 1024 = true))) (by omega)) (by omega), by omega⟩) | (refine Nat.le_trans (Nat.mul_le_mul_left _ (Nat.le_of_ble_eq_true (rfl : Nat.ble _ 1024 = true))) ?_; omega) | (unfold inI64; omega) | (constructor <;> omega) | (simp only [inI64, List.length_cons, List.length_append, List.length_nil, List.length_set] at *; omega) | decide | (unfold inI64; decide)); conv => whnf)
        | omega | decide | assumption)
      simp only [e3, Nat.beq_refl, cond_true]
      conv => whnf
      refine ⟨by show inI64 (allN q r l (GI r l) p k + min (o.getD k 0) (p.getD k pn0).pr); unfold inI64; omega, ?_⟩
      conv => whnf
      repeat' (first
        | (refine br_intro (fun hb => ?_) (fun hb => ?_) <;> (try simp only [decide_eq_true_eq, decide_eq_false_iff_not, Bool.not_eq_true', Bool.not_eq_false', Bool.and_eq_true, Bool.or_eq_true, beq_iff_eq, not_and, Int.not_le, Int.not_lt, Int.toNat_natCast, beq_eq_false_iff_ne, ne_eq, eq_self, not_true_eq_false, not_false_eq_true] at hb) <;> (conv => whnf))
        | (refine RegX.rule (id := 1) hT rfl [] [(0, []), (2, [0]), (4, [0, 2]), (5, [0, 2, 4]), (1, [2, 4, 5]), (3, [4, 5]), (6, []), (7, []), (8, []), (9, [])] (by decide +kernel) ?_; conv => whnf)
        | (refine RegX.rule (id := 16) hT rfl [] [(0, []), (1, [0]), (2, []), (3, []), (4, [0, 1, 2, 3]), (5, [0, 1, 2, 3, 4]), (6, [0, 1, 2, 3, 4]), (7, [0, 1, 2, 3, 4, 5, 6]), (8, [0, 1, 2, 3, 4, 5, 6, 7]), (9, [0, 1, 2, 3, 4, 5, 6]), (10, [0, 1, 2, 3, 4]), (11, [0, 1, 2, 3, 4]), (12, [0, 1, 2, 3]), (13, []), (14, []), (15, [])] (by decide +kernel) ?_; conv => whnf)
        | (refine RegX.rule (id := 22) hT rfl [] [(0, []), (1, [0]), (2, [0, 1]), (3, [0, 1, 2]), (4, [0, 1]), (5, [0, 1]), (6, [0, 1, 2, 3, 4, 5]), (7, [0, 1, 2, 3, 4, 5, 6]), (8, [0, 1, 2, 3, 4, 5]), (9, [0, 1, 2, 3, 4, 5]), (10, [0, 1, 2, 3, 4, 5]), (11, [0, 1]), (12, []), (13, [])] (by decide +kernel) ?_; conv => whnf)
        | omega
        | (refine And.intro ?_ ?_; ((try dsimp only); first | omega | (refine ⟨by omega, by omega, Int.le_trans (Int.mul_le_mul_of_nonneg_right (Int.ofNat_le.2 (Nat.le_of_ble_eq_true (rfl : Nat.ble _ 1024 = true))) (by omega)) (by omega), by omega⟩) | (refine Nat.le_trans (Nat.mul_le_mul_left _ (Nat.le_of_ble_eq_true (rfl : Nat.ble _ 1024 = true))) ?_; omega) | (unfold inI64; omega) | (constructor <;> omega) | (simp only [inI64, List.length_cons, List.length_append, List.length_nil, List.length_set] at *; omega) | decide | (unfold inI64; decide)); conv => whnf)
        | omega | decide | assumption)
      refine ⟨(k + 1, o.set k (min (o.getD k 0) (p.getD k pn0).pr)), ⟨by omega, by simp [k2], fun j hj => ?_⟩, (show p.length - (k + 1) < p.length - k by omega), ?_⟩
      · rw [List.getD_eq_getElem?_getD, List.getElem?_set]
        by_cases hj2 : k = j
        · subst hj2
          rw [if_pos rfl, if_pos (by omega), if_pos (by omega), hos]; rfl
        · rw [if_neg hj2, ← List.getD_eq_getElem?_getD, k3 j hj]
          by_cases hj3 : j < k
          · rw [if_pos hj3, if_pos (by omega)]
          · rw [if_neg hj3, if_neg (by omega)]
      · show Entails _ (mkSt [(0, .d (pnls p)), (12, .buf 12), (21, .d (.int .i64 (allN q r l (GI r l) p (k + 1)))), (85, .d (.int .i64 p.length)), (86, .d (.int .i64 ((k + 1 : Nat) : Int)))] [(12, seqB 3 1 iF 0 (o.set k (min (o.getD k 0) (p.getD k pn0).pr)))])
        rw [has, hos]
        exact Entails.mk' [(12, 12)] rfl rfl ⟨SV.le_refl _, SV.le_refl _, SV.le_int (by simp), SV.le_refl _, SV.le_refl _, trivial⟩ ⟨Res.le_upd (fun _ => min (o.getD k 0) (p.getD k pn0).pr) (fun _ => rfl), trivial⟩
    · obtain rfl : k = p.length := by omega
      have ho : o = outL q r l (GI r l) p p.length := eq_of_getD 0 (by rw [outL_len, k2]) (fun j hj => by
        rw [k3 j (by omega), if_pos (by omega), outL_get q r l (GI r l) p p.length j (by omega)])
      subst ho
      conv => whnf
      repeat' (first
        | (refine br_intro (fun hb => ?_) (fun hb => ?_) <;> (try simp only [decide_eq_true_eq, decide_eq_false_iff_not, Bool.not_eq_true', Bool.not_eq_false', Bool.and_eq_true, Bool.or_eq_true, beq_iff_eq, not_and, Int.not_le, Int.not_lt, Int.toNat_natCast, beq_eq_false_iff_ne, ne_eq, eq_self, not_true_eq_false, not_false_eq_true] at hb) <;> (conv => whnf))
        | (refine RegX.rule (id := 1) hT rfl [] [(0, []), (2, [0]), (4, [0, 2]), (5, [0, 2, 4]), (1, [2, 4, 5]), (3, [4, 5]), (6, []), (7, []), (8, []), (9, [])] (by decide +kernel) ?_; conv => whnf)
        | (refine RegX.rule (id := 16) hT rfl [] [(0, []), (1, [0]), (2, []), (3, []), (4, [0, 1, 2, 3]), (5, [0, 1, 2, 3, 4]), (6, [0, 1, 2, 3, 4]), (7, [0, 1, 2, 3, 4, 5, 6]), (8, [0, 1, 2, 3, 4, 5, 6, 7]), (9, [0, 1, 2, 3, 4, 5, 6]), (10, [0, 1, 2, 3, 4]), (11, [0, 1, 2, 3, 4]), (12, [0, 1, 2, 3]), (13, []), (14, []), (15, [])] (by decide +kernel) ?_; conv => whnf)
        | (refine RegX.rule (id := 22) hT rfl [] [(0, []), (1, [0]), (2, [0, 1]), (3, [0, 1, 2]), (4, [0, 1]), (5, [0, 1]), (6, [0, 1, 2, 3, 4, 5]), (7, [0, 1, 2, 3, 4, 5, 6]), (8, [0, 1, 2, 3, 4, 5]), (9, [0, 1, 2, 3, 4, 5]), (10, [0, 1, 2, 3, 4, 5]), (11, [0, 1]), (12, []), (13, [])] (by decide +kernel) ?_; conv => whnf)
        | omega
        | (refine And.intro ?_ ?_; ((try dsimp only); first | omega | (refine ⟨by omega, by omega, Int.le_trans (Int.mul_le_mul_of_nonneg_right (Int.ofNat_le.2 (Nat.le_of_ble_eq_true (rfl : Nat.ble _ 1024 = true))) (by omega)) (by omega), by omega⟩) | (refine Nat.le_trans (Nat.mul_le_mul_left _ (Nat.le_of_ble_eq_true (rfl : Nat.ble _ 1024 = true))) ?_; omega) | (unfold inI64; omega) | (constructor <;> omega) | (simp only [inI64, List.length_cons, List.length_append, List.length_nil, List.length_set] at *; omega) | decide | (unfold inI64; decide)); conv => whnf)
        | omega | decide | assumption)
      refine .freeze _ 12 3 1 _ _ rfl (.weak _ ?_)
      conv => whnf
      exact ⟨_, [], SV.le_refl _, ⟨rfl, rfl⟩, trivial⟩
end Go.Proofs.YtnkdlkgannnfhaaGreatDoor
set_option maxRecDepth 20000
namespace Go.Proofs.YtnkdlkgannnfhaaGreatDoor
open Go Go.Eng
abbrev pncell (x : Pnl) : Res := .cells 225 ((pnF x).map .d)
-- EstimateOf
set_option maxHeartbeats 4000000 in
theorem z88 (p : List Pnl) (r : Rul) (q : List Rep) (l : List Mrk) (hq : reOk q) (hl12 : l.length ≤ 12) (hz : cosE q p r l = 0) : FSpec Tryz.prog 88 [.d (pnls p), .agg ((ruF r).map .d), .d (reps q), .d (mrks l)] [] (fun x r' => x = .tup [.d (ints (outL q r l (GI r l) p p.length)), .d (.int .i64 (allN q r l (GI r l) p p.length))] ∧ r' = []) := by
  obtain ⟨hz1, hz2, hz3, hz4⟩ := cosE_zero hz
  have hr := rulE_bd hz1
  have hmB := onPE_mBd hz4
  have h93 := z93 r l hr hmB.1 hmB.2
  have hp40 := (panE_pr hz3).1
  have hGl := grI_len r l l.length
  have hGn : (GI r l).length ≤ 12 := Nat.le_trans hGl hl12
  have hGa := grI_all r l l.length
  have hG12 : ∀ g ∈ GI r l, g.length ≤ 12 := fun g hg => Nat.le_trans (hGa g hg).1 hl12
  have hest := fun key => est_bd hz2 hr l hG12 key
  have hps : ∀ j, j < p.length → 0 ≤ outS q r l (GI r l) p j ∧ outS q r l (GI r l) p j ≤ 1000000 := fun j hj => by
    have h1 := hest (p.getD j pn0).key (GI r l).length (Nat.le_refl _)
    have h2 := (panE_pr hz3).2 j hj
    unfold outS
    omega
  have hall := all_bd hps
  refine spec_of hT (C := []) Tryz.func88 rfl Tryz.call88 rfl rfl rfl ?_
  conv => whnf
  refine LoopX.rule hT (C := []) (ι := Nat) (fun j => j ≤ p.length)
    (fun j => mkSt [(2, .d (reps q)), (3, .d (mrks l)), (5, .ptr 5 0), (10, .buf 10), (11, .d (.int .i64 (allN q r l (GI r l) p j))), (22, .d (pnls p)), (23, .d (.int .i64 p.length)), (24, .d (.int .i64 j))] [(5, .cells 76 ((ruF r).map .d)), (10, seqB 3 1 iF 0 (outL q r l (GI r l) p j))])
    (fun j => p.length - j) 0 (by omega) ?_ ?_
  · exact (Entails.nil 10 10 3 1 (rowF iF 0 []) rfl rfl (by decide)).trans (by refine Entails.mk' [(5, 5), (10, 10)] rfl rfl ?_ ?_ <;> repeat' (first | exact True.intro | exact SV.le_refl _ | exact Res.le_refl _ | exact SV.le_int (by omega) | exact SV.le_any _ | refine And.intro ?_ ?_))
  rintro j j1
  have e1 : (j : Int).toNat = j := Int.toNat_natCast j
  have hol := outL_len q r l (GI r l) p j
  have has : allN q r l (GI r l) p (j + 1) = allN q r l (GI r l) p j + outS q r l (GI r l) p j := rfl
  have hos : outL q r l (GI r l) p (j + 1) = outL q r l (GI r l) p j ++ [outS q r l (GI r l) p j] := rfl
  have haj := hall j j1
  by_cases hj : j < p.length
  · have hpj := hps j hj
    have hose : outS q r l (GI r l) p j = min (estN q r l (GI r l) (p.getD j pn0).key (GI r l).length) (p.getD j pn0).pr := rfl
    conv => whnf
    repeat' (first
      | (refine CallX.exact (h93) rfl rfl ?_; rotate_right; conv => whnf)
      | (refine br_intro (fun hb => ?_) (fun hb => ?_) <;> (try simp only [decide_eq_true_eq, decide_eq_false_iff_not, Bool.not_eq_true', Bool.not_eq_false', Bool.and_eq_true, Bool.or_eq_true, beq_iff_eq, not_and, Int.not_le, Int.not_lt, Int.toNat_natCast, beq_eq_false_iff_ne, ne_eq, eq_self, not_true_eq_false, not_false_eq_true] at hb) <;> (conv => whnf))
      | (refine RegX.rule (id := 10) hT rfl [] [(0, []), (1, [0]), (2, [0]), (3, [0]), (4, []), (5, []), (6, []), (7, [0, 1, 2, 3, 4, 5, 6]), (8, [0, 1, 2, 3, 4, 5, 6]), (9, [])] (by decide +kernel) ?_; conv => whnf)
      | omega
      | (refine And.intro ?_ ?_; ((try dsimp only); first | omega | (refine ⟨by omega, by omega, Int.le_trans (Int.mul_le_mul_of_nonneg_right (Int.ofNat_le.2 (Nat.le_of_ble_eq_true (rfl : Nat.ble _ 1024 = true))) (by omega)) (by omega), by omega⟩) | (refine Nat.le_trans (Nat.mul_le_mul_left _ (Nat.le_of_ble_eq_true (rfl : Nat.ble _ 1024 = true))) ?_; omega) | (unfold inI64; omega) | (constructor <;> omega) | (simp only [inI64, List.length_cons, List.length_append, List.length_nil, List.length_set] at *; omega) | decide | (unfold inI64; decide)); conv => whnf)
      | omega | decide | assumption)
    refine LoopX.rule hT (C := []) (ι := Nat) (fun t => t ≤ (GI r l).length)
      (fun t => mkSt [(2, .d (reps q)), (3, .d (mrks l)), (5, .ptr 5 0), (10, .buf 10), (11, .d (.int .i64 (allN q r l (GI r l) p j))), (13, .ptr 13 0), (14, .d (.int .i64 (estN q r l (GI r l) (p.getD j pn0).key t))), (22, .d (pnls p)), (23, .d (.int .i64 p.length)), (24, .d (.int .i64 j)), (30, .d (grs (GI r l))), (31, .d (.int .i64 (GI r l).length)), (32, .d (.int .i64 t))]
        [(5, .cells 76 ((ruF r).map .d)), (10, seqB 3 1 iF 0 (outL q r l (GI r l) p j)), (13, pncell (p.getD j pn0))])
      (fun t => (GI r l).length - t) 0 (by omega) ?_ ?_
    · exact Entails.mk' [(5, 5), (10, 10), (13, 13)] rfl rfl ⟨SV.le_refl _, SV.le_refl _, SV.le_refl _, SV.le_refl _, SV.le_refl _, SV.le_refl _, SV.le_refl _, SV.le_refl _, SV.le_refl _, SV.le_refl _, SV.le_refl _, SV.le_refl _, SV.le_refl _, trivial⟩ ⟨Res.le_refl _, Res.le_refl _, Res.le_refl _, trivial⟩
    rintro t t1
    have e2 : (t : Int).toNat = t := Int.toNat_natCast t
    have hestt := hest (p.getD j pn0).key t t1
    by_cases ht : t < (GI r l).length
    · have hgm : (GI r l).getD t [] ∈ GI r l := getD_mem ht
      obtain ⟨g1, g2, g3⟩ := hGa _ hgm
      have hes : estN q r l (GI r l) (p.getD j pn0).key (t + 1) = if panG l ((GI r l).getD t []) = (p.getD j pn0).key then estN q r l (GI r l) (p.getD j pn0).key t + amtI q r l ((GI r l).getD t []) else estN q r l (GI r l) (p.getD j pn0).key t := rfl
      generalize hg : (GI r l).getD t [] = g at g1 g2 g3 hes hgm
      have hg' : (GI r l).getD (t : Int).toNat [] = g := hg
      have hmost := most_bd hz2 l g
      have hpg0 := g3 0 g2
      have hamt := amt_bd hz2 hr l (hG12 _ hgm)
      have hamt2 : 0 ≤ mostN q l g g.length + (r.part * (sumN q l g g.length - mostN q l g g.length)).tdiv 1000 ∧ mostN q l g g.length + (r.part * (sumN q l g g.length - mostN q l g g.length)).tdiv 1000 ≤ 13000000 := hamt
      rw [Int.mul_comm] at hamt2
      have hae : amtI q r l g = mostN q l g g.length + ((sumN q l g g.length - mostN q l g g.length) * r.part).tdiv 1000 := by unfold amtI; rw [Int.mul_comm]
      have hprod := prod_bd (a := r.part) (b := sumN q l g g.length - mostN q l g g.length) (by unfold rBd at hr; omega) (by unfold rBd at hr; omega) (by have := hmost g.length; omega)
      rw [Int.mul_comm] at hprod
      have hmg := hmost g.length
      have hpan : panG l g = (l.getD (g.getD 0 0).toNat mk0).pan := rfl
      rw [hpan] at hes
      have hx1 : 0 < ((GI r l).getD (t : Int).toNat []).length := by rw [hg']; exact g2
      have hx2 : 0 ≤ ((GI r l).getD (t : Int).toNat []).getD (Int.toNat 0) 0 ∧ ((GI r l).getD (t : Int).toNat []).getD (Int.toNat 0) 0 < (l.length : Int) := by
        rw [hg']; exact ⟨hpg0.1, by show g.getD 0 0 < _; omega⟩
      conv => whnf
      repeat' (first
        | (refine br_intro (fun hb => ?_) (fun hb => ?_) <;> (try simp only [decide_eq_true_eq, decide_eq_false_iff_not, Bool.not_eq_true', Bool.not_eq_false', Bool.and_eq_true, Bool.or_eq_true, beq_iff_eq, not_and, Int.not_le, Int.not_lt, Int.toNat_natCast, beq_eq_false_iff_ne, ne_eq, eq_self, not_true_eq_false, not_false_eq_true] at hb) <;> (conv => whnf))
        | (refine RegX.rule (id := 10) hT rfl [] [(0, []), (1, [0]), (2, [0]), (3, [0]), (4, []), (5, []), (6, []), (7, [0, 1, 2, 3, 4, 5, 6]), (8, [0, 1, 2, 3, 4, 5, 6]), (9, [])] (by decide +kernel) ?_; conv => whnf)
        | omega
        | (refine And.intro ?_ ?_; ((try dsimp only); first | omega | (refine ⟨by omega, by omega, Int.le_trans (Int.mul_le_mul_of_nonneg_right (Int.ofNat_le.2 (Nat.le_of_ble_eq_true (rfl : Nat.ble _ 1024 = true))) (by omega)) (by omega), by omega⟩) | (refine Nat.le_trans (Nat.mul_le_mul_left _ (Nat.le_of_ble_eq_true (rfl : Nat.ble _ 1024 = true))) ?_; omega) | (unfold inI64; omega) | (constructor <;> omega) | (simp only [inI64, List.length_cons, List.length_append, List.length_nil, List.length_set] at *; omega) | decide | (unfold inI64; decide)); conv => whnf)
        | omega | decide | assumption)
      · refine ⟨t + 1, by omega, by omega, ?_⟩
        rw [hes, if_neg (by subst hg; simpa using hb)]
        exact Entails.mk' [(5, 5), (10, 10), (13, 13)] rfl rfl ⟨SV.le_refl _, SV.le_refl _, SV.le_refl _, SV.le_refl _, SV.le_refl _, SV.le_refl _, SV.le_refl _, SV.le_refl _, SV.le_refl _, SV.le_refl _, SV.le_refl _, SV.le_refl _, SV.le_refl _, trivial⟩ ⟨Res.le_refl _, Res.le_refl _, Res.le_refl _, trivial⟩
      rw [if_pos (by subst hg; simpa using hb)] at hes
      refine LoopX.rule hT (C := []) (ι := Nat) (fun i => i ≤ g.length) (fun i => mkSt [(2, .d (reps q)), (3, .d (mrks l)), (5, .ptr 5 0), (10, .buf 10), (11, .d (.int .i64 (allN q r l (GI r l) p j))), (13, .ptr 13 0), (14, .d (.int .i64 (estN q r l (GI r l) (p.getD j pn0).key t))), (17, .d (.int .i64 (mostN q l g i))), (18, .d (.int .i64 (sumN q l g i))), (22, .d (pnls p)), (23, .d (.int .i64 p.length)), (24, .d (.int .i64 j)), (30, .d (grs (GI r l))), (31, .d (.int .i64 (GI r l).length)), (32, .d (.int .i64 t)), (46, .d (ints g)), (47, .d (.int .i64 g.length)), (48, .d (.int .i64 i))]
        [(5, .cells 76 ((ruF r).map .d)), (10, seqB 3 1 iF 0 (outL q r l (GI r l) p j)), (13, pncell (p.getD j pn0))]) (fun i => g.length - i) 0 (by omega) ?_ ?_
      · subst hg
        exact Entails.mk' [(5, 5), (10, 10), (13, 13)] rfl rfl ⟨SV.le_refl _, SV.le_refl _, SV.le_refl _, SV.le_refl _, SV.le_refl _, SV.le_refl _, SV.le_refl _, SV.le_refl _, SV.le_refl _, SV.le_refl _, SV.le_refl _, SV.le_refl _, SV.le_refl _, SV.le_refl _, SV.le_refl _, SV.le_refl _, SV.le_refl _, SV.le_refl _, trivial⟩ ⟨Res.le_refl _, Res.le_refl _, Res.le_refl _, trivial⟩
      rintro i i1
      have e3 : (i : Int).toNat = i := Int.toNat_natCast i
      have hmi := hmost i
      have hms : mostN q l g (i + 1) = max (mostN q l g i) (price q (l.getD (g.getD i 0).toNat mk0)) := rfl
      have hss : sumN q l g (i + 1) = sumN q l g i + price q (l.getD (g.getD i 0).toNat mk0) := rfl
      have hgi := fun (h : i < g.length) => g3 i h
      have hpb := price_bd hz2 (l.getD (g.getD (i : Int).toNat 0).toNat mk0)
      by_cases hi : i < g.length
      · have hgi := hgi hi
        have hgi2 : 0 ≤ g.getD (i : Int).toNat 0 ∧ g.getD (i : Int).toNat 0 < (l.length : Int) := ⟨hgi.1, by show g.getD i 0 < _; omega⟩
        conv => whnf
        repeat' (first
          | (refine CallX.exact (z96 q (l.getD (g.getD (i : Int).toNat 0).toNat mk0) hq.1) rfl rfl ?_; rotate_right; conv => whnf)
          | (refine br_intro (fun hb => ?_) (fun hb => ?_) <;> (try simp only [decide_eq_true_eq, decide_eq_false_iff_not, Bool.not_eq_true', Bool.not_eq_false', Bool.and_eq_true, Bool.or_eq_true, beq_iff_eq, not_and, Int.not_le, Int.not_lt, Int.toNat_natCast, beq_eq_false_iff_ne, ne_eq, eq_self, not_true_eq_false, not_false_eq_true] at hb) <;> (conv => whnf))
          | (refine RegX.rule (id := 10) hT rfl [] [(0, []), (1, [0]), (2, [0]), (3, [0]), (4, []), (5, []), (6, []), (7, [0, 1, 2, 3, 4, 5, 6]), (8, [0, 1, 2, 3, 4, 5, 6]), (9, [])] (by decide +kernel) ?_; conv => whnf)
          | omega
          | (refine And.intro ?_ ?_; ((try dsimp only); first | omega | (refine ⟨by omega, by omega, Int.le_trans (Int.mul_le_mul_of_nonneg_right (Int.ofNat_le.2 (Nat.le_of_ble_eq_true (rfl : Nat.ble _ 1024 = true))) (by omega)) (by omega), by omega⟩) | (refine Nat.le_trans (Nat.mul_le_mul_left _ (Nat.le_of_ble_eq_true (rfl : Nat.ble _ 1024 = true))) ?_; omega) | (unfold inI64; omega) | (constructor <;> omega) | (simp only [inI64, List.length_cons, List.length_append, List.length_nil, List.length_set] at *; omega) | decide | (unfold inI64; decide)); conv => whnf)
          | omega | decide | assumption)
        refine ⟨i + 1, by omega, by omega, ?_⟩
        rw [hms, hss]
        exact Entails.mk' [(5, 5), (10, 10), (13, 13)] rfl rfl ⟨SV.le_refl _, SV.le_refl _, SV.le_refl _, SV.le_refl _, SV.le_refl _, SV.le_refl _, SV.le_refl _, SV.le_refl _, SV.le_refl _, SV.le_refl _, SV.le_refl _, SV.le_refl _, SV.le_refl _, SV.le_refl _, SV.le_refl _, SV.le_refl _, SV.le_refl _, SV.le_refl _, trivial⟩ ⟨Res.le_refl _, Res.le_refl _, Res.le_refl _, trivial⟩
      · obtain rfl : i = g.length := by omega
        conv => whnf
        repeat' (first
          | (refine br_intro (fun hb => ?_) (fun hb => ?_) <;> (try simp only [decide_eq_true_eq, decide_eq_false_iff_not, Bool.not_eq_true', Bool.not_eq_false', Bool.and_eq_true, Bool.or_eq_true, beq_iff_eq, not_and, Int.not_le, Int.not_lt, Int.toNat_natCast, beq_eq_false_iff_ne, ne_eq, eq_self, not_true_eq_false, not_false_eq_true] at hb) <;> (conv => whnf))
          | (refine RegX.rule (id := 10) hT rfl [] [(0, []), (1, [0]), (2, [0]), (3, [0]), (4, []), (5, []), (6, []), (7, [0, 1, 2, 3, 4, 5, 6]), (8, [0, 1, 2, 3, 4, 5, 6]), (9, [])] (by decide +kernel) ?_; conv => whnf)
          | omega
          | (refine And.intro ?_ ?_; ((try dsimp only); first | omega | (refine ⟨by omega, by omega, Int.le_trans (Int.mul_le_mul_of_nonneg_right (Int.ofNat_le.2 (Nat.le_of_ble_eq_true (rfl : Nat.ble _ 1024 = true))) (by omega)) (by omega), by omega⟩) | (refine Nat.le_trans (Nat.mul_le_mul_left _ (Nat.le_of_ble_eq_true (rfl : Nat.ble _ 1024 = true))) ?_; omega) | (unfold inI64; omega) | (constructor <;> omega) | (simp only [inI64, List.length_cons, List.length_append, List.length_nil, List.length_set] at *; omega) | decide | (unfold inI64; decide)); conv => whnf)
          | omega | decide | assumption)
        refine ⟨t + 1, by omega, by omega, ?_⟩
        rw [hes, hae]
        exact Entails.mk' [(5, 5), (10, 10), (13, 13)] rfl rfl ⟨SV.le_refl _, SV.le_refl _, SV.le_refl _, SV.le_refl _, SV.le_refl _, SV.le_refl _, SV.le_refl _, SV.le_refl _, SV.le_refl _, SV.le_refl _, SV.le_refl _, SV.le_refl _, SV.le_refl _, trivial⟩ ⟨Res.le_refl _, Res.le_refl _, Res.le_refl _, trivial⟩
    · obtain rfl : t = (GI r l).length := by omega
      rw [hose] at hpj has hos
      conv => whnf
      repeat' (first
        | (refine br_intro (fun hb => ?_) (fun hb => ?_) <;> (try simp only [decide_eq_true_eq, decide_eq_false_iff_not, Bool.not_eq_true', Bool.not_eq_false', Bool.and_eq_true, Bool.or_eq_true, beq_iff_eq, not_and, Int.not_le, Int.not_lt, Int.toNat_natCast, beq_eq_false_iff_ne, ne_eq, eq_self, not_true_eq_false, not_false_eq_true] at hb) <;> (conv => whnf))
        | (refine RegX.rule (id := 10) hT rfl [] [(0, []), (1, [0]), (2, [0]), (3, [0]), (4, []), (5, []), (6, []), (7, [0, 1, 2, 3, 4, 5, 6]), (8, [0, 1, 2, 3, 4, 5, 6]), (9, [])] (by decide +kernel) ?_; conv => whnf)
        | omega
        | (refine And.intro ?_ ?_; ((try dsimp only); first | omega | (refine ⟨by omega, by omega, Int.le_trans (Int.mul_le_mul_of_nonneg_right (Int.ofNat_le.2 (Nat.le_of_ble_eq_true (rfl : Nat.ble _ 1024 = true))) (by omega)) (by omega), by omega⟩) | (refine Nat.le_trans (Nat.mul_le_mul_left _ (Nat.le_of_ble_eq_true (rfl : Nat.ble _ 1024 = true))) ?_; omega) | (unfold inI64; omega) | (constructor <;> omega) | (simp only [inI64, List.length_cons, List.length_append, List.length_nil, List.length_set] at *; omega) | decide | (unfold inI64; decide)); conv => whnf)
        | omega | decide | assumption)
      refine ⟨by show inI64 (allN q r l (GI r l) p j + min (estN q r l (GI r l) (p.getD j pn0).key (GI r l).length) (p.getD j pn0).pr); unfold inI64; omega, ?_⟩
      conv => whnf
      repeat' (first
        | (refine br_intro (fun hb => ?_) (fun hb => ?_) <;> (try simp only [decide_eq_true_eq, decide_eq_false_iff_not, Bool.not_eq_true', Bool.not_eq_false', Bool.and_eq_true, Bool.or_eq_true, beq_iff_eq, not_and, Int.not_le, Int.not_lt, Int.toNat_natCast, beq_eq_false_iff_ne, ne_eq, eq_self, not_true_eq_false, not_false_eq_true] at hb) <;> (conv => whnf))
        | (refine RegX.rule (id := 10) hT rfl [] [(0, []), (1, [0]), (2, [0]), (3, [0]), (4, []), (5, []), (6, []), (7, [0, 1, 2, 3, 4, 5, 6]), (8, [0, 1, 2, 3, 4, 5, 6]), (9, [])] (by decide +kernel) ?_; conv => whnf)
        | omega
        | (refine And.intro ?_ ?_; ((try dsimp only); first | omega | (refine ⟨by omega, by omega, Int.le_trans (Int.mul_le_mul_of_nonneg_right (Int.ofNat_le.2 (Nat.le_of_ble_eq_true (rfl : Nat.ble _ 1024 = true))) (by omega)) (by omega), by omega⟩) | (refine Nat.le_trans (Nat.mul_le_mul_left _ (Nat.le_of_ble_eq_true (rfl : Nat.ble _ 1024 = true))) ?_; omega) | (unfold inI64; omega) | (constructor <;> omega) | (simp only [inI64, List.length_cons, List.length_append, List.length_nil, List.length_set] at *; omega) | decide | (unfold inI64; decide)); conv => whnf)
        | omega | decide | assumption)
      refine ⟨j + 1, by omega, by omega, ?_⟩
      rw [has, hos]
      exact Entails.mk' [(5, 5), (10, 83)] rfl rfl ⟨SV.le_refl _, SV.le_refl _, SV.le_refl _, SV.le_refl _, SV.le_refl _, SV.le_refl _, SV.le_refl _, SV.le_refl _, trivial⟩ ⟨Res.le_refl _, Res.le_snocF rfl, trivial⟩
  · obtain rfl : j = p.length := by omega
    conv => whnf
    repeat' (first
      | (refine br_intro (fun hb => ?_) (fun hb => ?_) <;> (try simp only [decide_eq_true_eq, decide_eq_false_iff_not, Bool.not_eq_true', Bool.not_eq_false', Bool.and_eq_true, Bool.or_eq_true, beq_iff_eq, not_and, Int.not_le, Int.not_lt, Int.toNat_natCast, beq_eq_false_iff_ne, ne_eq, eq_self, not_true_eq_false, not_false_eq_true] at hb) <;> (conv => whnf))
      | (refine RegX.rule (id := 10) hT rfl [] [(0, []), (1, [0]), (2, [0]), (3, [0]), (4, []), (5, []), (6, []), (7, [0, 1, 2, 3, 4, 5, 6]), (8, [0, 1, 2, 3, 4, 5, 6]), (9, [])] (by decide +kernel) ?_; conv => whnf)
      | omega
      | (refine And.intro ?_ ?_; ((try dsimp only); first | omega | (refine ⟨by omega, by omega, Int.le_trans (Int.mul_le_mul_of_nonneg_right (Int.ofNat_le.2 (Nat.le_of_ble_eq_true (rfl : Nat.ble _ 1024 = true))) (by omega)) (by omega), by omega⟩) | (refine Nat.le_trans (Nat.mul_le_mul_left _ (Nat.le_of_ble_eq_true (rfl : Nat.ble _ 1024 = true))) ?_; omega) | (unfold inI64; omega) | (constructor <;> omega) | (simp only [inI64, List.length_cons, List.length_append, List.length_nil, List.length_set] at *; omega) | decide | (unfold inI64; decide)); conv => whnf)
      | omega | decide | assumption)
    refine .freeze _ 10 3 1 _ _ rfl (.weak _ ?_)
    conv => whnf
    exact ⟨_, [], SV.le_refl _, ⟨rfl, rfl⟩, trivial⟩
-- RepairsCost
set_option maxHeartbeats 4000000 in
theorem z13 (n : Nat) (L : Nat → Int) (hn : n ≤ maxLen) (hl : ∀ i, -2^63 ≤ L i ∧ L i < 2^63) : FSpec Tryz.prog 13 [.d (.ro 1 n fun i => [.int .i64 (L i)])] [] (fun x r => x = .d (.bool true) ∧ r = []) := by
  have hL : Rok n L := ⟨hn, hl⟩
  refine spec_of hT (C := []) Tryz.func13 rfl Tryz.call13 rfl rfl rfl ?_
  conv => whnf
  repeat' (first
    | (refine CallX.of (z46 n L hL 0 (by omega) (by omega)) [(1000000, 14)] rfl ⟨SV.le_refl _, trivial⟩ ⟨Res.le_refl _, trivial⟩ rfl rfl ?_; rintro x rout ⟨⟨p, z, m, o, q1, q2, q3, rfl⟩, ⟨c, c1, c2, rfl⟩⟩; have hp := pnOk_of q1 (by omega); have hm := mkOk_of q2 (by omega); have ho := mkOk_of q3 (by omega); refine ⟨rfl, ?_⟩; conv => whnf)
    | (refine CallX.of (sRep n L hL _ ?_ ?_ ) [(1000000, 14)] rfl ⟨SV.le_refl _, trivial⟩ ⟨Res.le_refl _, trivial⟩ rfl rfl ?_; rotate_right; rintro x rout ⟨⟨l, hl4, rfl⟩, ⟨c, c1, c2, rfl⟩⟩; refine ⟨rfl, ?_⟩; conv => whnf)
    | (refine br_intro (fun hb => ?_) (fun hb => ?_) <;> (try simp only [decide_eq_true_eq, decide_eq_false_iff_not, Bool.not_eq_true', Bool.not_eq_false', Bool.and_eq_true, Bool.or_eq_true, beq_iff_eq, not_and, Int.not_le, Int.not_lt, Int.toNat_natCast, beq_eq_false_iff_ne, ne_eq, eq_self, not_true_eq_false, not_false_eq_true] at hb) <;> (conv => whnf))
    | (refine RegX.rule (id := 4) hT rfl [] [(0, []), (1, []), (3, [0, 1]), (5, [0, 1, 3]), (6, [0, 1, 3]), (7, [0, 1, 3, 5, 6]), (8, [0, 1, 3, 5, 6]), (2, [3, 5, 6, 7, 8]), (4, [5, 6, 7, 8]), (9, []), (10, []), (11, []), (12, [])] (by decide +kernel) ?_; conv => whnf)
    | omega
    | (refine And.intro ?_ ?_; ((try dsimp only); first | omega | (refine ⟨by omega, by omega, Int.le_trans (Int.mul_le_mul_of_nonneg_right (Int.ofNat_le.2 (Nat.le_of_ble_eq_true (rfl : Nat.ble _ 1024 = true))) (by omega)) (by omega), by omega⟩) | (refine Nat.le_trans (Nat.mul_le_mul_left _ (Nat.le_of_ble_eq_true (rfl : Nat.ble _ 1024 = true))) ?_; omega) | (unfold inI64; omega) | (constructor <;> omega) | (simp only [inI64, List.length_cons, List.length_append, List.length_nil, List.length_set] at *; omega) | decide | (unfold inI64; decide)); conv => whnf)
    | omega | decide | assumption)
  have hm12 : m.length ≤ 12 := by have := q2.1; omega
  have hlo : reOk l := ⟨by omega, fun _ _ => trivial⟩
  have h85 := z85 p z l m hp hlo hm hm12
  have h17 := s17 [rulE z, repsE l, mrksPE p m] (by simp)
  have h86 := z86 l hlo
  rw [show firstE [rulE z, repsE l, mrksPE p m] = cosE l p z m from rfl] at h17
  unfold cosV at h85
  by_cases hz : cosE l p z m = 0
  · rw [if_pos hz] at h85
    have h88 := z88 p z l m hlo hm12 hz
    have hol := outL_len l z m (GI z m) p p.length
    have hpl := hp.1
    have h37 := s37 (outL l z m (GI z m) p p.length) (outL l z m (GI z m) p p.length) (by omega) (by omega)
    rw [decide_eq_true rfl] at h37
    rw [hz] at h17
    generalize outL l z m (GI z m) p p.length = out at h85 h88 h37
    generalize allN l z m (GI z m) p p.length = all at h85 h88
    repeat' (first
      | (refine CallX.exact (h85) rfl rfl ?_; rotate_right; conv => whnf)
      | (refine CallX.exact (s103 z) rfl rfl ?_; rotate_right; conv => whnf)
      | (refine CallX.exact (s101 p m hp hm) rfl rfl ?_; rotate_right; conv => whnf)
      | (refine CallX.exact (h86) rfl rfl ?_; rotate_right; conv => whnf)
      | (refine CallX.pure h17 ⟨SV.le_lit (by rfl) (by rfl), trivial⟩ rfl ?_; conv => whnf)
      | (refine CallX.exact (h88) rfl rfl ?_; rotate_right; conv => whnf)
      | (refine CallX.exact (h37) rfl rfl ?_; rotate_right; conv => whnf)
      | (refine CallX.exact (s42) rfl rfl ?_; rotate_right; conv => whnf)
      | (refine br_intro (fun hb => ?_) (fun hb => ?_) <;> (try simp only [decide_eq_true_eq, decide_eq_false_iff_not, Bool.not_eq_true', Bool.not_eq_false', Bool.and_eq_true, Bool.or_eq_true, beq_iff_eq, not_and, Int.not_le, Int.not_lt, Int.toNat_natCast, beq_eq_false_iff_ne, ne_eq, eq_self, not_true_eq_false, not_false_eq_true] at hb) <;> (conv => whnf))
      | (refine RegX.rule (id := 4) hT rfl [] [(0, []), (1, []), (3, [0, 1]), (5, [0, 1, 3]), (6, [0, 1, 3]), (7, [0, 1, 3, 5, 6]), (8, [0, 1, 3, 5, 6]), (2, [3, 5, 6, 7, 8]), (4, [5, 6, 7, 8]), (9, []), (10, []), (11, []), (12, [])] (by decide +kernel) ?_; conv => whnf)
      | omega
      | (refine And.intro ?_ ?_; ((try dsimp only); first | omega | (refine ⟨by omega, by omega, Int.le_trans (Int.mul_le_mul_of_nonneg_right (Int.ofNat_le.2 (Nat.le_of_ble_eq_true (rfl : Nat.ble _ 1024 = true))) (by omega)) (by omega), by omega⟩) | (refine Nat.le_trans (Nat.mul_le_mul_left _ (Nat.le_of_ble_eq_true (rfl : Nat.ble _ 1024 = true))) ?_; omega) | (unfold inI64; omega) | (constructor <;> omega) | (simp only [inI64, List.length_cons, List.length_append, List.length_nil, List.length_set] at *; omega) | decide | (unfold inI64; decide)); conv => whnf)
      | omega | decide | assumption)
    refine .ret _ ?_
    conv => whnf
    refine ⟨[], ⟨?_, rfl⟩, trivial⟩
    conv => lhs; whnf
    all_goals rfl
  · rw [if_neg hz] at h85
    generalize cosE l p z m = e at h85 h17 hz
    repeat' (first
      | (refine CallX.exact (h85) rfl rfl ?_; rotate_right; conv => whnf)
      | (refine CallX.exact (s103 z) rfl rfl ?_; rotate_right; conv => whnf)
      | (refine CallX.exact (s101 p m hp hm) rfl rfl ?_; rotate_right; conv => whnf)
      | (refine CallX.exact (h86) rfl rfl ?_; rotate_right; conv => whnf)
      | (refine CallX.pure h17 ⟨SV.le_lit (by rfl) (by rfl), trivial⟩ rfl ?_; conv => whnf)
      | (refine CallX.exact (s42) rfl rfl ?_; rotate_right; conv => whnf)
      | (refine br_intro (fun hb => ?_) (fun hb => ?_) <;> (try simp only [decide_eq_true_eq, decide_eq_false_iff_not, Bool.not_eq_true', Bool.not_eq_false', Bool.and_eq_true, Bool.or_eq_true, beq_iff_eq, not_and, Int.not_le, Int.not_lt, Int.toNat_natCast, beq_eq_false_iff_ne, ne_eq, eq_self, not_true_eq_false, not_false_eq_true] at hb) <;> (conv => whnf))
      | (refine RegX.rule (id := 4) hT rfl [] [(0, []), (1, []), (3, [0, 1]), (5, [0, 1, 3]), (6, [0, 1, 3]), (7, [0, 1, 3, 5, 6]), (8, [0, 1, 3, 5, 6]), (2, [3, 5, 6, 7, 8]), (4, [5, 6, 7, 8]), (9, []), (10, []), (11, []), (12, [])] (by decide +kernel) ?_; conv => whnf)
      | omega
      | (refine And.intro ?_ ?_; ((try dsimp only); first | omega | (refine ⟨by omega, by omega, Int.le_trans (Int.mul_le_mul_of_nonneg_right (Int.ofNat_le.2 (Nat.le_of_ble_eq_true (rfl : Nat.ble _ 1024 = true))) (by omega)) (by omega), by omega⟩) | (refine Nat.le_trans (Nat.mul_le_mul_left _ (Nat.le_of_ble_eq_true (rfl : Nat.ble _ 1024 = true))) ?_; omega) | (unfold inI64; omega) | (constructor <;> omega) | (simp only [inI64, List.length_cons, List.length_append, List.length_nil, List.length_set] at *; omega) | decide | (unfold inI64; decide)); conv => whnf)
      | omega | decide | assumption)
    refine .ret _ ?_
    conv => whnf
    refine ⟨[], ⟨?_, rfl⟩, trivial⟩
    conv => lhs; whnf
    all_goals rfl
end Go.Proofs.YtnkdlkgannnfhaaGreatDoor
