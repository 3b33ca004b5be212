/- PlacesLeast is proved: for every input the law returns true, and its argument reads afterwards as it read before. Conditions: those of the given row alone. -/
import Derived.Test.YtellmmmohdjpeaaDoorPlConSex
import Derived.Test.YtellmmmohdjpeaaDoorPlConQui
import Derived.Test.YtellmmmohdjpeaaDoorPlEngTwo
set_option linter.unusedVariables false
set_option linter.unusedSimpArgs false
set_option maxRecDepth 20000
namespace Go.Proofs.YtellmmmohdjpeaaDoor
open Go Go.Eng
-- shift.lost
theorem s137 (b : List Bsy) (p : Plc) (hb0 : bsysE b = 0) : FSpec Tryd.prog 137 [.d (bsys b), .agg ((plF p).map .d)] [] (fun x r => x = .d (.int .i64 (lostP b p)) ∧ r = []) := by
  obtain ⟨b1, b2⟩ := bsys_bd hb0
  refine spec_of hT (C := []) Tryd.func137 rfl Tryd.call137 rfl rfl rfl ?_
  conv => whnf
  refine LoopX.rule hT (C := []) (ι := Nat) (fun i => i ≤ b.length) (fun i => mkSt [(3, .ptr 3 0), (5, .d (.int .i64 (sumN (fun i => lostC (b.getD i bs0) p) i))), (8, .d (bsys b)), (9, .d (.int .i64 b.length)), (10, .d (.int .i64 i))] [(3, pcell p)]) (fun i => b.length - i) 0 (by omega) (by refine Entails.mk' [(3, 3)] rfl rfl ?_ ?_ <;> repeat' (first | exact True.intro | exact SV.le_refl _ | exact Res.le_refl _ | exact SV.le_int (by omega) | exact SV.le_any _ | refine And.intro ?_ ?_)) ?_
  rintro i p1
  have e1 : (i : Int).toNat = i := Int.toNat_natCast i
  have hs := sumN_bd (f := fun i => lostC (b.getD i bs0) p) (c := 1000000) (n := i) (fun j hj => lostC_bd (b2 j (by omega)))
  have hc : (i : Int) < b.length → 0 ≤ (b.getD (i : Int).toNat bs0).cents ∧ (b.getD (i : Int).toNat bs0).cents ≤ 1000000 := fun h => b2 _ (by omega)
  have hstep : sumN (fun i => lostC (b.getD i bs0) p) (i + 1) = sumN (fun i => lostC (b.getD i bs0) p) i + lostC (b.getD (i : Int).toNat bs0) p := by rw [e1]; rfl
  conv => whnf
  repeat' (first
    | (refine br_intro (fun hb => ?_) (fun hb => ?_) <;> (try simp only [decide_eq_true_eq, decide_eq_false_iff_not, Bool.not_eq_true', Bool.not_eq_false', Bool.and_eq_true, Bool.or_eq_true, beq_iff_eq, not_and, Int.not_le, Int.not_lt, Int.toNat_natCast, beq_eq_false_iff_ne, ne_eq, eq_self, not_true_eq_false, not_false_eq_true] at hb) <;> (conv => whnf))
    | omega
    | (refine And.intro ?_ ?_; ((try dsimp only); first | omega | (refine ⟨by omega, by omega, Int.le_trans (Int.mul_le_mul_of_nonneg_right (Int.ofNat_le.2 (Nat.le_of_ble_eq_true (rfl : Nat.ble _ 1024 = true))) (by omega)) (by omega), by omega⟩) | (refine Nat.le_trans (Nat.mul_le_mul_left _ (Nat.le_of_ble_eq_true (rfl : Nat.ble _ 1024 = true))) ?_; omega) | (unfold inI64; omega) | (constructor <;> omega) | (simp only [inI64, List.length_cons, List.length_append, List.length_nil, List.length_set] at *; omega) | decide | (unfold inI64; decide)); conv => whnf)
    | omega | decide | assumption)
  all_goals first
    | (refine ⟨i + 1, by omega, by omega, Entails.mk' [(3, 3)] rfl rfl ⟨SV.le_refl _, SV.le_int (by rw [hstep]; unfold lostC; clear hs hc hstep b2; grind), SV.le_refl _, SV.le_refl _, SV.le_refl _, trivial⟩ ⟨Res.le_refl _, trivial⟩⟩)
    | (refine .ret _ ?_
       conv => whnf
       refine ⟨[], ⟨?_, rfl⟩, trivial⟩
       conv => lhs; whnf
       congr 2
       have : i = b.length := by omega
       subst this
       rfl)
def lostE (b : List Bsy) (l : List Plc) : Int := firstE [bsysE b, plcsE l]
-- shift.Lost
theorem s79 (b : List Bsy) (l : List Plc) (hb : bsOk b) (hl : plOk l) : FSpec Tryd.prog 79 [.d (bsys b), .d (plcs l)] [] (fun x r => x = .tup [.d (.int .i64 (if lostE b l = 0 then lostA b l else 0)), .d (.int .i64 (lostE b l))] ∧ r = []) := by
  have h105 := s105 [bsysE b, plcsE l] (by simp)
  rw [show firstE [bsysE b, plcsE l] = lostE b l from rfl] at h105
  by_cases hE : lostE b l = 0
  · have hb0 : bsysE b = 0 := by unfold lostE at hE; simp only [firstE] at hE; grind
    have hl0 : plcsE l = 0 := by unfold lostE at hE; simp only [firstE] at hE; grind
    obtain ⟨b1, b2⟩ := bsys_bd hb0
    obtain ⟨l1, l2⟩ := plcs_bd hl0
    have hone : ∀ p, 0 ≤ lostP b p ∧ lostP b p ≤ 200000000 := fun p => by
      have := sumN_bd (f := fun i => lostC (b.getD i bs0) p) (c := 1000000) (n := b.length) (fun j hj => lostC_bd (b2 j (by omega)))
      unfold lostP; omega
    rw [hE] at h105 ⊢
    rw [if_pos rfl]
    refine spec_of hT (C := []) Tryd.func79 rfl Tryd.call79 rfl rfl rfl ?_
    conv => whnf
    repeat' (first
      | (refine CallX.exact (s136 b hb) rfl rfl ?_; rotate_right; conv => whnf)
      | (refine CallX.exact (s141 l hl) rfl rfl ?_; rotate_right; conv => whnf)
      | (refine CallX.pure h105 ⟨SV.le_lit (by rfl) (by rfl), trivial⟩ rfl ?_; conv => whnf)
      | (refine br_intro (fun hb => ?_) (fun hb => ?_) <;> (try simp only [decide_eq_true_eq, decide_eq_false_iff_not, Bool.not_eq_true', Bool.not_eq_false', Bool.and_eq_true, Bool.or_eq_true, beq_iff_eq, not_and, Int.not_le, Int.not_lt, Int.toNat_natCast, beq_eq_false_iff_ne, ne_eq, eq_self, not_true_eq_false, not_false_eq_true] at hb) <;> (conv => whnf))
      | omega
      | (refine And.intro ?_ ?_; ((try dsimp only); first | omega | (refine ⟨by omega, by omega, Int.le_trans (Int.mul_le_mul_of_nonneg_right (Int.ofNat_le.2 (Nat.le_of_ble_eq_true (rfl : Nat.ble _ 1024 = true))) (by omega)) (by omega), by omega⟩) | (refine Nat.le_trans (Nat.mul_le_mul_left _ (Nat.le_of_ble_eq_true (rfl : Nat.ble _ 1024 = true))) ?_; omega) | (unfold inI64; omega) | (constructor <;> omega) | (simp only [inI64, List.length_cons, List.length_append, List.length_nil, List.length_set] at *; omega) | decide | (unfold inI64; decide)); conv => whnf)
      | omega | decide | assumption)
    refine LoopX.rule hT (C := []) (ι := Nat) (fun i => i ≤ l.length) (fun i => mkSt [(0, .d (bsys b)), (7, .d (.int .i64 (sumN (fun j => lostP b (l.getD j pl0)) i))), (19, .d (plcs l)), (20, .d (.int .i64 l.length)), (21, .d (.int .i64 i))] []) (fun i => l.length - i) 0 (by omega) (by refine Entails.mk' [] rfl rfl ?_ ?_ <;> repeat' (first | exact True.intro | exact SV.le_refl _ | exact Res.le_refl _ | exact SV.le_int (by omega) | exact SV.le_any _ | refine And.intro ?_ ?_)) ?_
    rintro i p1
    have e1 : (i : Int).toNat = i := Int.toNat_natCast i
    have hs := sumN_bd (f := fun j => lostP b (l.getD j pl0)) (c := 200000000) (n := i) (fun j hj => hone _)
    have hp := hone (l.getD (i : Int).toNat pl0)
    have hstep : sumN (fun j => lostP b (l.getD j pl0)) (i + 1) = sumN (fun j => lostP b (l.getD j pl0)) i + lostP b (l.getD (i : Int).toNat pl0) := by rw [e1]; rfl
    conv => whnf
    repeat' (first
      | (refine CallX.exact (s137 b _ hb0) rfl rfl ?_; rotate_right; conv => whnf)
      | (refine br_intro (fun hb => ?_) (fun hb => ?_) <;> (try simp only [decide_eq_true_eq, decide_eq_false_iff_not, Bool.not_eq_true', Bool.not_eq_false', Bool.and_eq_true, Bool.or_eq_true, beq_iff_eq, not_and, Int.not_le, Int.not_lt, Int.toNat_natCast, beq_eq_false_iff_ne, ne_eq, eq_self, not_true_eq_false, not_false_eq_true] at hb) <;> (conv => whnf))
      | omega
      | (refine And.intro ?_ ?_; ((try dsimp only); first | omega | (refine ⟨by omega, by omega, Int.le_trans (Int.mul_le_mul_of_nonneg_right (Int.ofNat_le.2 (Nat.le_of_ble_eq_true (rfl : Nat.ble _ 1024 = true))) (by omega)) (by omega), by omega⟩) | (refine Nat.le_trans (Nat.mul_le_mul_left _ (Nat.le_of_ble_eq_true (rfl : Nat.ble _ 1024 = true))) ?_; omega) | (unfold inI64; omega) | (constructor <;> omega) | (simp only [inI64, List.length_cons, List.length_append, List.length_nil, List.length_set] at *; omega) | decide | (unfold inI64; decide)); conv => whnf)
      | omega | decide | assumption)
    · exact ⟨i + 1, by omega, by omega, Entails.mk' [] rfl rfl ⟨SV.le_refl _, SV.le_int hstep.symm, SV.le_refl _, SV.le_refl _, SV.le_refl _, trivial⟩ trivial⟩
    · have : i = l.length := by omega
      subst this
      refine .ret _ ?_
      conv => whnf
      refine ⟨[], ⟨congrArg SV.tup ?_, rfl⟩, trivial⟩
      repeat' (refine cons_eq ?_ ?_)
      all_goals (conv => lhs; whnf)
      all_goals try (with_reducible rfl)
      all_goals rfl
  · rw [if_neg hE]
    generalize lostE b l = e at h105 hE
    refine spec_of hT (C := []) Tryd.func79 rfl Tryd.call79 rfl rfl rfl ?_
    conv => whnf
    repeat' (first
      | (refine CallX.exact (s136 b hb) rfl rfl ?_; rotate_right; conv => whnf)
      | (refine CallX.exact (s141 l hl) rfl rfl ?_; rotate_right; conv => whnf)
      | (refine CallX.pure h105 ⟨SV.le_lit (by rfl) (by rfl), trivial⟩ rfl ?_; conv => whnf)
      | (refine br_intro (fun hb => ?_) (fun hb => ?_) <;> (try simp only [decide_eq_true_eq, decide_eq_false_iff_not, Bool.not_eq_true', Bool.not_eq_false', Bool.and_eq_true, Bool.or_eq_true, beq_iff_eq, not_and, Int.not_le, Int.not_lt, Int.toNat_natCast, beq_eq_false_iff_ne, ne_eq, eq_self, not_true_eq_false, not_false_eq_true] at hb) <;> (conv => whnf))
      | omega
      | (refine And.intro ?_ ?_; ((try dsimp only); first | omega | (refine ⟨by omega, by omega, Int.le_trans (Int.mul_le_mul_of_nonneg_right (Int.ofNat_le.2 (Nat.le_of_ble_eq_true (rfl : Nat.ble _ 1024 = true))) (by omega)) (by omega), by omega⟩) | (refine Nat.le_trans (Nat.mul_le_mul_left _ (Nat.le_of_ble_eq_true (rfl : Nat.ble _ 1024 = true))) ?_; omega) | (unfold inI64; omega) | (constructor <;> omega) | (simp only [inI64, List.length_cons, List.length_append, List.length_nil, List.length_set] at *; omega) | decide | (unfold inI64; decide)); conv => whnf)
      | omega | decide | assumption)
    refine .ret _ ?_
    conv => whnf
    refine ⟨[], ⟨congrArg SV.tup ?_, rfl⟩, trivial⟩
    repeat' (refine cons_eq ?_ ?_)
    all_goals (conv => lhs; whnf)
    all_goals try (with_reducible rfl)
    all_goals rfl
theorem s112c (b : Bool) : FSpec Tryd.prog 112 [.d (.bool b)] [] (fun x r => ((b = true ∧ x = .d (.int .i64 1)) ∨ (b = false ∧ x = .d (.int .i64 0))) ∧ r = []) :=
  (s112 b).mono (by rintro x r ⟨rfl, rfl⟩; cases b <;> simp)
-- LostOf
theorem s83 (b : List Bsy) (l : List Plc) (hb0 : bsysE b = 0) (hl0 : plcsE l = 0) : FSpec Tryd.prog 83 [.d (bsys b), .d (plcs l)] [] (fun x r => x = .d (.int .i64 (lostA b l)) ∧ r = []) := by
  obtain ⟨b1, b2⟩ := bsys_bd hb0
  obtain ⟨l1, l2⟩ := plcs_bd hl0
  have hto : ∀ i, i < b.length → 0 ≤ (b.getD i bs0).to ∧ (b.getD i bs0).to ≤ 4001 := fun i hi => by
    unfold bsysE at hb0
    split at hb0
    · cases hb0
    have := firstAt_all hb0 i hi
    unfold bsyE at this
    simp only at this
    grind
  have hrow : ∀ i, i < b.length → ∀ m, m ≤ l.length → 0 ≤ sumN (fun j => lostC (b.getD i bs0) (l.getD j pl0)) m ∧ sumN (fun j => lostC (b.getD i bs0) (l.getD j pl0)) m ≤ 6000000 := fun i hi m hm => by
    have := sumN_bd (f := fun j => lostC (b.getD i bs0) (l.getD j pl0)) (c := 1000000) (n := m) (fun j hj => lostC_bd (b2 i hi))
    omega
  rw [← lost_swap]
  refine spec_of hT (C := []) Tryd.func83 rfl Tryd.call83 rfl rfl rfl ?_
  conv => whnf
  refine LoopX.rule hT (C := []) (ι := Nat) (fun i => i ≤ b.length) (fun i => mkSt [(1, .d (plcs l)), (5, .d (.int .i64 (sumN (fun i => sumN (fun j => lostC (b.getD i bs0) (l.getD j pl0)) l.length) i))), (10, .d (bsys b)), (11, .d (.int .i64 b.length)), (12, .d (.int .i64 i))] []) (fun i => b.length - i) 0 (by omega) (by refine Entails.mk' [] rfl rfl ?_ ?_ <;> repeat' (first | exact True.intro | exact SV.le_refl _ | exact Res.le_refl _ | exact SV.le_int (by omega) | exact SV.le_any _ | refine And.intro ?_ ?_)) ?_
  rintro i p1
  have e1 : (i : Int).toNat = i := Int.toNat_natCast i
  have hs := sumN_bd (f := fun i => sumN (fun j => lostC (b.getD i bs0) (l.getD j pl0)) l.length) (c := 6000000) (n := i) (fun j hj => hrow j (by omega) _ (Nat.le_refl _))
  conv => whnf
  repeat' (first
    | (refine br_intro (fun hb => ?_) (fun hb => ?_) <;> (try simp only [decide_eq_true_eq, decide_eq_false_iff_not, Bool.not_eq_true', Bool.not_eq_false', Bool.and_eq_true, Bool.or_eq_true, beq_iff_eq, not_and, Int.not_le, Int.not_lt, Int.toNat_natCast, beq_eq_false_iff_ne, ne_eq, eq_self, not_true_eq_false, not_false_eq_true] at hb) <;> (conv => whnf))
    | (refine RegX.rule (id := 8) hT rfl [] [(0, []), (1, [0]), (2, [0]), (3, [0, 1, 2]), (4, [0, 1, 2]), (5, [0, 1, 2, 3, 4]), (6, [0, 1, 2, 3, 4]), (7, [0, 1, 2]), (8, [0, 1, 2]), (9, [0, 1, 2]), (10, [0, 1, 2]), (11, [0, 1, 2, 9, 10]), (12, [0, 1, 2, 9, 10]), (13, [0, 1, 2, 9, 10, 11, 12]), (14, [0, 1, 2, 9, 10, 11, 12]), (15, [0, 1, 2, 9, 10, 11, 12]), (16, [0, 1, 2]), (17, [0, 1, 2]), (18, [0, 1, 2]), (19, [0]), (20, []), (21, [])] (by decide +kernel) ?_; conv => whnf)
    | omega
    | (refine And.intro ?_ ?_; ((try dsimp only); first | omega | (refine ⟨by omega, by omega, Int.le_trans (Int.mul_le_mul_of_nonneg_right (Int.ofNat_le.2 (Nat.le_of_ble_eq_true (rfl : Nat.ble _ 1024 = true))) (by omega)) (by omega), by omega⟩) | (refine Nat.le_trans (Nat.mul_le_mul_left _ (Nat.le_of_ble_eq_true (rfl : Nat.ble _ 1024 = true))) ?_; omega) | (unfold inI64; omega) | (constructor <;> omega) | (simp only [inI64, List.length_cons, List.length_append, List.length_nil, List.length_set] at *; omega) | decide | (unfold inI64; decide)); conv => whnf)
    | omega | decide | assumption)
  · refine LoopX.rule hT (C := []) (ι := Nat) (fun m => m ≤ l.length) (fun m => mkSt [(1, .d (plcs l)), (5, .d (.int .i64 (sumN (fun i => sumN (fun j => lostC (b.getD i bs0) (l.getD j pl0)) l.length) i + sumN (fun j => lostC (b.getD i bs0) (l.getD j pl0)) m))), (7, .ptr 7 0), (10, .d (bsys b)), (11, .d (.int .i64 b.length)), (12, .d (.int .i64 i)), (16, .d (plcs l)), (17, .d (.int .i64 l.length)), (18, .d (.int .i64 m))] [(7, .cells 225 ((bsF (b.getD i bs0)).map .d))]) (fun m => l.length - m) 0 (by omega) ?_ ?_
    · exact Entails.mk' [(7, 7)] rfl rfl ⟨SV.le_refl _, SV.le_int (by simp only [sumN]; omega), SV.le_refl _, SV.le_refl _, SV.le_refl _, SV.le_refl _, SV.le_refl _, SV.le_refl _, SV.le_refl _, trivial⟩ ⟨by rw [e1]; exact Res.le_refl _, trivial⟩
    rintro m m1
    have e2 : (m : Int).toNat = m := Int.toNat_natCast m
    have hi : i < b.length := by omega
    have hr := hrow i hi m m1
    have ht := hto i hi
    have hc := b2 i hi
    have hstep : sumN (fun j => lostC (b.getD i bs0) (l.getD j pl0)) (m + 1) = sumN (fun j => lostC (b.getD i bs0) (l.getD j pl0)) m + lostC (b.getD i bs0) (l.getD (m : Int).toNat pl0) := by rw [e2]; rfl
    conv => whnf
    repeat' (first
      | (refine CallX.exact (s109 _ _ _) rfl rfl ?_; rotate_right; conv => whnf)
      | (refine CallX.of (s112c _) [] rfl ⟨SV.le_refl _, trivial⟩ trivial rfl rfl ?_; rintro x rout ⟨hfl, rfl⟩; rcases hfl with (⟨hfl, rfl⟩ | ⟨hfl, rfl⟩) <;> refine ⟨rfl, ?_⟩ <;> (try simp only [decide_eq_true_eq, decide_eq_false_iff_not] at hfl) <;> (conv => whnf); conv => whnf)
      | (refine br_intro (fun hb => ?_) (fun hb => ?_) <;> (try simp only [decide_eq_true_eq, decide_eq_false_iff_not, Bool.not_eq_true', Bool.not_eq_false', Bool.and_eq_true, Bool.or_eq_true, beq_iff_eq, not_and, Int.not_le, Int.not_lt, Int.toNat_natCast, beq_eq_false_iff_ne, ne_eq, eq_self, not_true_eq_false, not_false_eq_true] at hb) <;> (conv => whnf))
      | (refine RegX.rule (id := 8) hT rfl [] [(0, []), (1, [0]), (2, [0]), (3, [0, 1, 2]), (4, [0, 1, 2]), (5, [0, 1, 2, 3, 4]), (6, [0, 1, 2, 3, 4]), (7, [0, 1, 2]), (8, [0, 1, 2]), (9, [0, 1, 2]), (10, [0, 1, 2]), (11, [0, 1, 2, 9, 10]), (12, [0, 1, 2, 9, 10]), (13, [0, 1, 2, 9, 10, 11, 12]), (14, [0, 1, 2, 9, 10, 11, 12]), (15, [0, 1, 2, 9, 10, 11, 12]), (16, [0, 1, 2]), (17, [0, 1, 2]), (18, [0, 1, 2]), (19, [0]), (20, []), (21, [])] (by decide +kernel) ?_; conv => whnf)
      | omega
      | (refine And.intro ?_ ?_; ((try dsimp only); first | omega | (refine ⟨by omega, by omega, Int.le_trans (Int.mul_le_mul_of_nonneg_right (Int.ofNat_le.2 (Nat.le_of_ble_eq_true (rfl : Nat.ble _ 1024 = true))) (by omega)) (by omega), by omega⟩) | (refine Nat.le_trans (Nat.mul_le_mul_left _ (Nat.le_of_ble_eq_true (rfl : Nat.ble _ 1024 = true))) ?_; omega) | (unfold inI64; omega) | (constructor <;> omega) | (simp only [inI64, List.length_cons, List.length_append, List.length_nil, List.length_set] at *; omega) | decide | (unfold inI64; decide)); conv => whnf)
      | omega | decide | assumption)
    all_goals first
      | (refine ⟨m + 1, by omega, by omega, Entails.mk' [(7, 7)] rfl rfl ⟨SV.le_refl _, SV.le_int (by rw [hstep, e2]; simp only [e2] at *; unfold lostC; clear hs hrow hr hc hto b2 l2 hstep; simp only [Int.mul_one, Int.mul_zero]; grind), SV.le_refl _, SV.le_refl _, SV.le_refl _, SV.le_refl _, SV.le_refl _, SV.le_refl _, SV.le_refl _, trivial⟩ ⟨Res.le_refl _, trivial⟩⟩)
      | (have : m = l.length := by omega
         subst this
         exact ⟨i + 1, by omega, by omega, (by refine Entails.mk' [] rfl rfl ?_ ?_ <;> repeat' (first | exact True.intro | exact SV.le_refl _ | exact Res.le_refl _ | exact SV.le_int (by omega) | exact SV.le_any _ | refine And.intro ?_ ?_))⟩)
  · refine .ret _ ?_
    conv => whnf
    refine ⟨[], ⟨?_, rfl⟩, trivial⟩
    conv => lhs; whnf
    congr 2
    have : i = b.length := by omega
    subst this
    rfl
end Go.Proofs.YtellmmmohdjpeaaDoor
set_option maxRecDepth 20000
namespace Go.Proofs.YtellmmmohdjpeaaDoor
open Go Go.Eng
-- Slots
theorem s69 (n : Nat) (L : Nat → Int) (hL : Rok n L) (a : Int) (h0 : 0 ≤ a) (ha : a ≤ 2^38) :
    FSpec Tryd.prog 69 [.ptr 1000000 0] [(1000000, strm n L a)] (fun y r => (∃ l, l.length ≤ 7 ∧ y = .d (slts l)) ∧ Moved n L a 20 r) := by
  refine spec_of hT (C := []) Tryd.func69 rfl Tryd.call69 rfl rfl rfl ?_
  conv => whnf
  refine LoopX.rule hT (C := []) (ι := Int × List Slt × Nat) (fun (b, l, k) => (a ≤ b ∧ b ≤ a + 2 * k ∧ k ≤ 6) ∧ l.length ≤ k)
    (fun (b, l, k) => mkSt [(0, .ptr 1000000 0), (3, .buf 3), (5, .d (.int .i64 k))] [(1000000, strm n L b), (3, seqB 220 2 slF sl0 l)])
    (fun (_, _, k) => 6 - k) (a, [], 0) ⟨⟨by simp, by simp, by simp⟩, by simp⟩ ?_ ?_
  · exact (Entails.nil 3 3 220 2 (rowF slF sl0 []) rfl rfl (by decide)).trans (by refine Entails.mk' [(1000000, 1000000), (3, 3)] rfl rfl ?_ ?_ <;> repeat' (first | exact True.intro | exact SV.le_refl _ | exact Res.le_refl _ | exact SV.le_int (by omega) | exact SV.le_any _ | refine And.intro ?_ ?_))
  rintro ⟨b, l, k⟩ ⟨⟨p1, p2, p3⟩, q1⟩
  conv => whnf
  repeat' (first
    | (refine CallX.of (s84 n L hL _ ?_ ?_ _ ?_) [(1000000, 1000000)] rfl ⟨SV.le_refl _, SV.le_refl _, trivial⟩ ⟨Res.le_refl _, trivial⟩ rfl rfl ?_; rotate_right; rintro x rout ⟨⟨f, rfl⟩, ⟨c, c1, c2, rfl⟩⟩; refine ⟨rfl, ?_⟩; conv => whnf)
    | (refine CallX.of (s33 n L hL _ ?_ ?_ [0, 1, 1, 2] ?_ ?_) [(1000000, 1000000)] rfl ⟨SV.le_refl _, SV.le_lit rfl rfl, trivial⟩ ⟨Res.le_refl _, trivial⟩ rfl rfl ?_; rotate_right; rintro x rout ⟨⟨u1, hu1, rfl⟩, ⟨c, c1, c2, rfl⟩⟩; refine ⟨rfl, ?_⟩; conv => whnf)
    | (refine CallX.of (s104 n L hL _ ?_ ?_ _ _ ?_ ?_ ?_) [(1000000, 1000000)] rfl ⟨SV.le_refl _, SV.le_refl _, SV.le_refl _, trivial⟩ ⟨Res.le_refl _, trivial⟩ rfl rfl ?_; rotate_right; rintro x rout ⟨⟨u5, hk1, hk2, rfl⟩, ⟨c, c1, c2, rfl⟩⟩; refine ⟨rfl, ?_⟩; conv => whnf)
    | (refine br_intro (fun hb => ?_) (fun hb => ?_) <;> (try simp only [decide_eq_true_eq, decide_eq_false_iff_not, Bool.not_eq_true', Bool.not_eq_false', Bool.and_eq_true, Bool.or_eq_true, beq_iff_eq, not_and, Int.not_le, Int.not_lt, Int.toNat_natCast, beq_eq_false_iff_ne, ne_eq, eq_self, not_true_eq_false, not_false_eq_true] at hb) <;> (conv => whnf))
    | omega
    | (refine And.intro ?_ ?_; ((try dsimp only); first | omega | (refine ⟨by omega, by omega, Int.le_trans (Int.mul_le_mul_of_nonneg_right (Int.ofNat_le.2 (Nat.le_of_ble_eq_true (rfl : Nat.ble _ 1024 = true))) (by omega)) (by omega), by omega⟩) | (refine Nat.le_trans (Nat.mul_le_mul_left _ (Nat.le_of_ble_eq_true (rfl : Nat.ble _ 1024 = true))) ?_; omega) | (unfold inI64; omega) | (constructor <;> omega) | (simp only [inI64, List.length_cons, List.length_append, List.length_nil, List.length_set] at *; omega) | decide | (unfold inI64; decide)); conv => whnf)
    | omega | decide | assumption)
  · refine ⟨(_, _, k + 1), ?_, ?_, Entails.mk' [(1000000, 1000000), (3, 18)] rfl rfl ⟨SV.le_refl _, SV.le_refl _, SV.le_refl _, trivial⟩ ⟨Res.le_refl _, Res.le_snocF (x := ⟨_, _⟩) rfl, trivial⟩⟩
    · exact ⟨⟨by omega, by omega, by omega⟩, by simp; omega⟩
    · show 6 - (k + 1) < 6 - k; omega
  · exact ⟨(c, l, k + 1), ⟨⟨by omega, by omega, by omega⟩, by omega⟩, by show 6 - (k + 1) < 6 - k; omega, (by refine Entails.mk' [(1000000, 1000000), (3, 3)] rfl rfl ?_ ?_ <;> repeat' (first | exact True.intro | exact SV.le_refl _ | exact Res.le_refl _ | exact SV.le_int (by omega) | exact SV.le_any _ | refine And.intro ?_ ?_))⟩
  · refine .freeze _ 29 220 2 _ _ rfl (.weak _ ?_)
    (conv => whnf)
    exact ⟨_, [(1000000, strm n L _)], SV.le_snocF (f := slF) (d := sl0) (x := ⟨_, _⟩) rfl, ⟨⟨_, by simp; omega, rfl⟩, _, by omega, by omega, rfl⟩, Res.le_refl _, trivial⟩
  · refine .freeze _ 3 220 2 _ _ rfl (.weak _ ?_)
    (conv => whnf)
    exact ⟨_, [(1000000, strm n L _)], SV.le_refl _, ⟨⟨l, by omega, rfl⟩, _, by omega, by omega, rfl⟩, Res.le_refl _, trivial⟩
def wnG (x : Wnt) : Prop := x.v.length ≤ 8 ∧ -2^40 ≤ x.fr ∧ x.fr ≤ 2^40
-- Wanted
theorem s70 (n : Nat) (L : Nat → Int) (hL : Rok n L) (a : Int) (h0 : 0 ≤ a) (ha : a ≤ 2^38) :
    FSpec Tryd.prog 70 [.ptr 1000000 0] [(1000000, strm n L a)] (fun y r => (∃ l, allK wnG 4 l ∧ y = .d (wnts l)) ∧ Moved n L a 20 r) := by
  refine spec_of hT (C := []) Tryd.func70 rfl Tryd.call70 rfl rfl rfl ?_
  conv => whnf
  refine LoopX.rule hT (C := []) (ι := Int × List Wnt × Nat) (fun (b, l, k) => (a ≤ b ∧ b ≤ a + 3 * k ∧ k ≤ 4) ∧ allK wnG k l)
    (fun (b, l, k) => mkSt [(0, .ptr 1000000 0), (3, .buf 3), (8, .d (strs [[118, 49], [118, 50], [118, 51], [118, 52]])), (9, .d (.int .i64 4)), (10, .d (.int .i64 k))] [(1000000, strm n L b), (3, seqB 222 3 wnF wn0 l)])
    (fun (_, _, k) => 4 - k) (a, [], 0) ⟨⟨by simp, by simp, by simp⟩, ⟨by simp, by simp⟩⟩ ?_ ?_
  · refine (Entails.nil 3 3 222 3 (rowF wnF wn0 []) rfl rfl (by decide)).trans (Entails.mk' [(1000000, 1000000), (3, 3)] rfl rfl ⟨SV.le_refl _, SV.le_refl _, SV.le_lit rfl rfl, SV.le_refl _, SV.le_refl _, trivial⟩ ⟨Res.le_refl _, Res.le_refl _, trivial⟩)
  rintro ⟨b, l, k⟩ ⟨⟨p1, p2, p3⟩, q1⟩
  have hl1 := q1.1
  have hkey : (([[118, 49], [118, 50], [118, 51], [118, 52]] : List (List UInt8)).getD (k : Int).toNat []).length ≤ 8 := by
    rw [Int.toNat_natCast]
    match k with
    | 0 | 1 | 2 | 3 => simp
    | k + 4 => simp
  conv => whnf
  repeat' (first
    | (refine CallX.of (s84 n L hL _ ?_ ?_ _ ?_) [(1000000, 1000000)] rfl ⟨SV.le_refl _, SV.le_refl _, trivial⟩ ⟨Res.le_refl _, trivial⟩ rfl rfl ?_; rotate_right; rintro x rout ⟨⟨f, rfl⟩, ⟨c, c1, c2, rfl⟩⟩; refine ⟨rfl, ?_⟩; conv => whnf)
    | (refine CallX.of (s86 n L hL _ ?_ ?_ _ ?_) [(1000000, 1000000)] rfl ⟨SV.le_refl _, SV.le_refl _, trivial⟩ ⟨Res.le_refl _, trivial⟩ rfl rfl ?_; rotate_right; rintro x rout ⟨⟨j, hj1, hj2, hj3, rfl⟩, ⟨c, c1, c2, rfl⟩⟩; refine ⟨rfl, ?_⟩; conv => whnf)
    | (refine CallX.of (s33 n L hL _ ?_ ?_ [0, 0, 1, 2] ?_ ?_) [(1000000, 1000000)] rfl ⟨SV.le_refl _, SV.le_lit rfl rfl, trivial⟩ ⟨Res.le_refl _, trivial⟩ rfl rfl ?_; rotate_right; rintro x rout ⟨⟨u1, hu1, rfl⟩, ⟨c, c1, c2, rfl⟩⟩; have hw1 := mem_bd hu1 rfl; refine ⟨rfl, ?_⟩; conv => whnf)
    | (refine CallX.of (s33 n L hL _ ?_ ?_ [1, 2, 3, 4, 6, 0] ?_ ?_) [(1000000, 1000000)] rfl ⟨SV.le_refl _, SV.le_lit rfl rfl, trivial⟩ ⟨Res.le_refl _, trivial⟩ rfl rfl ?_; rotate_right; rintro x rout ⟨⟨u2, hu2, rfl⟩, ⟨c, c1, c2, rfl⟩⟩; have hw2 := mem_bd hu2 rfl; refine ⟨rfl, ?_⟩; conv => whnf)
    | (refine CallX.of (s104 n L hL _ ?_ ?_ 0 9 ?_ ?_ ?_) [(1000000, 1000000)] rfl ⟨SV.le_refl _, SV.le_refl _, SV.le_refl _, trivial⟩ ⟨Res.le_refl _, trivial⟩ rfl rfl ?_; rotate_right; rintro x rout ⟨⟨u5, hk1, hk2, rfl⟩, ⟨c, c1, c2, rfl⟩⟩; refine ⟨rfl, ?_⟩; conv => whnf)
    | (refine CallX.of (s104 n L hL _ ?_ ?_ 0 4001 ?_ ?_ ?_) [(1000000, 1000000)] rfl ⟨SV.le_refl _, SV.le_refl _, SV.le_refl _, trivial⟩ ⟨Res.le_refl _, trivial⟩ rfl rfl ?_; rotate_right; rintro x rout ⟨⟨u6, hk3, hk4, rfl⟩, ⟨c, c1, c2, rfl⟩⟩; refine ⟨rfl, ?_⟩; conv => whnf)
    | (refine CallX.of (s15 n L hL _ ?_ ?_ [_, [], [118, 49]] (by simp) (by simp)) [(1000000, 1000000)] rfl ⟨SV.le_refl _, SV.le_lit rfl rfl, trivial⟩ ⟨Res.le_refl _, trivial⟩ rfl rfl ?_; rotate_right; rintro x rout ⟨⟨u3, hu3, rfl⟩, ⟨c, c1, c2, rfl⟩⟩; refine ⟨rfl, ?_⟩; conv => whnf)
    | (refine br_intro (fun hb => ?_) (fun hb => ?_) <;> (try simp only [decide_eq_true_eq, decide_eq_false_iff_not, Bool.not_eq_true', Bool.not_eq_false', Bool.and_eq_true, Bool.or_eq_true, beq_iff_eq, not_and, Int.not_le, Int.not_lt, Int.toNat_natCast, beq_eq_false_iff_ne, ne_eq, eq_self, not_true_eq_false, not_false_eq_true] at hb) <;> (conv => whnf))
    | omega
    | (refine And.intro ?_ ?_; ((try dsimp only); first | omega | (refine ⟨by omega, by omega, Int.le_trans (Int.mul_le_mul_of_nonneg_right (Int.ofNat_le.2 (Nat.le_of_ble_eq_true (rfl : Nat.ble _ 1024 = true))) (by omega)) (by omega), by omega⟩) | (refine Nat.le_trans (Nat.mul_le_mul_left _ (Nat.le_of_ble_eq_true (rfl : Nat.ble _ 1024 = true))) ?_; omega) | (unfold inI64; omega) | (constructor <;> omega) | (simp only [inI64, List.length_cons, List.length_append, List.length_nil, List.length_set] at *; omega) | decide | (unfold inI64; decide)); conv => whnf)
    | omega | decide | assumption)
  · refine ⟨(_, _, k + 1), ?_, ?_, Entails.mk' [(1000000, 1000000), (3, 30)] rfl rfl ⟨SV.le_refl _, SV.le_refl _, SV.le_refl _, SV.le_refl _, SV.le_refl _, trivial⟩ ⟨Res.le_refl _, Res.le_snocF (x := ⟨_, _, _⟩) rfl, trivial⟩⟩
    · exact ⟨⟨by omega, by omega, by omega⟩, allK_snoc q1 (Nat.le_refl _) ⟨hkey, hw1⟩⟩
    · show 4 - (k + 1) < 4 - k; omega
  · exact ⟨(c, l, k + 1), ⟨⟨by omega, by omega, by omega⟩, allK_le q1 (by omega)⟩, by show 4 - (k + 1) < 4 - k; omega, (by refine Entails.mk' [(1000000, 1000000), (3, 3)] rfl rfl ?_ ?_ <;> repeat' (first | exact True.intro | exact SV.le_refl _ | exact Res.le_refl _ | exact SV.le_int (by omega) | exact SV.le_any _ | refine And.intro ?_ ?_))⟩
  · refine .freeze _ 3 222 3 _ _ rfl (.weak _ ?_)
    (conv => whnf)
    have hu3' : u3.length ≤ 8 := by
      have hm := (q1.2 _ (getD_mem (l := l) (i := j.toNat) (x := wn0) (by omega))).1
      simp only [List.mem_cons, List.not_mem_nil, or_false] at hu3
      rcases hu3 with rfl | rfl | rfl
      · exact hm
      · simp
      · simp
    refine ⟨_, [(1000000, strm n L _)], SV.le_upd3 (f := wnF) (d := wn0) (l := l) (fun y => ⟨u3, y.fr, y.to⟩) (fun y => ⟨y.v, u5, y.to⟩) (fun y => ⟨y.v, y.fr, u6⟩) (fun _ => rfl) (fun _ => rfl) (fun _ => rfl), ⟨⟨_, ?_, rfl⟩, _, by omega, by omega, rfl⟩, Res.le_refl _, trivial⟩
    exact allK_upd (g := fun y => ⟨y.v, y.fr, u6⟩) (allK_upd (g := fun y => ⟨y.v, u5, y.to⟩) (allK_upd (g := fun y => ⟨u3, y.fr, y.to⟩) (allK_le q1 p3) (fun y hy => ⟨hu3', hy.2⟩)) (fun y hy => ⟨hy.1, hk1, hk2⟩)) (fun y hy => hy)
  all_goals
    refine .freeze _ 3 222 3 _ _ rfl (.weak _ ?_)
    (conv => whnf)
    exact ⟨_, [(1000000, strm n L _)], SV.le_refl _, ⟨⟨l, allK_le q1 p3, rfl⟩, _, by omega, by omega, rfl⟩, Res.le_refl _, trivial⟩
def bsG (x : Bsy) : Prop := x.v.length ≤ 8
-- BusyOf
theorem s71 (n : Nat) (L : Nat → Int) (hL : Rok n L) (a : Int) (h0 : 0 ≤ a) (ha : a ≤ 2^38) :
    FSpec Tryd.prog 71 [.ptr 1000000 0] [(1000000, strm n L a)] (fun y r => (∃ l, allK bsG 7 l ∧ y = .d (bsys l)) ∧ Moved n L a 50 r) := by
  refine spec_of hT (C := []) Tryd.func71 rfl Tryd.call71 rfl rfl rfl ?_
  conv => whnf
  repeat' (first
    | (refine CallX.of (s64 n L hL _ ?_ ?_ _ _ ?_ ?_ ?_ ?_) [(1000000, 1000000)] rfl ⟨SV.le_refl _, SV.le_refl _, SV.le_refl _, trivial⟩ ⟨Res.le_refl _, trivial⟩ rfl rfl ?_; rotate_right; rintro x rout ⟨⟨m, hm1, hm2, rfl⟩, ⟨c, c1, c2, rfl⟩⟩; refine ⟨rfl, ?_⟩; conv => whnf)
    | (refine br_intro (fun hb => ?_) (fun hb => ?_) <;> (try simp only [decide_eq_true_eq, decide_eq_false_iff_not, Bool.not_eq_true', Bool.not_eq_false', Bool.and_eq_true, Bool.or_eq_true, beq_iff_eq, not_and, Int.not_le, Int.not_lt, Int.toNat_natCast, beq_eq_false_iff_ne, ne_eq, eq_self, not_true_eq_false, not_false_eq_true] at hb) <;> (conv => whnf))
    | omega
    | (refine And.intro ?_ ?_; ((try dsimp only); first | omega | (refine ⟨by omega, by omega, Int.le_trans (Int.mul_le_mul_of_nonneg_right (Int.ofNat_le.2 (Nat.le_of_ble_eq_true (rfl : Nat.ble _ 1024 = true))) (by omega)) (by omega), by omega⟩) | (refine Nat.le_trans (Nat.mul_le_mul_left _ (Nat.le_of_ble_eq_true (rfl : Nat.ble _ 1024 = true))) ?_; omega) | (unfold inI64; omega) | (constructor <;> omega) | (simp only [inI64, List.length_cons, List.length_append, List.length_nil, List.length_set] at *; omega) | decide | (unfold inI64; decide)); conv => whnf)
    | omega | decide | assumption)
  refine LoopX.rule hT (C := []) (ι := Int × List Bsy × Nat) (fun (b, l, k) => (c ≤ b ∧ b ≤ c + 4 * k ∧ (k : Int) ≤ m) ∧ allK bsG k l)
    (fun (b, l, k) => mkSt [(0, .ptr 1000000 0), (3, .buf 3), (7, .d (.int .i64 m)), (8, .d (.int .i64 k))] [(1000000, strm n L b), (3, seqB 225 4 bsF bs0 l)])
    (fun (_, _, k) => 7 - k) (c, [], 0) ⟨⟨by simp, by simp, by simpa using hm1⟩, ⟨by simp, by simp⟩⟩ ?_ ?_
  · exact (Entails.nil 3 3 225 4 (rowF bsF bs0 []) rfl rfl (by decide)).trans (by refine Entails.mk' [(1000000, 1000000), (3, 3)] rfl rfl ?_ ?_ <;> repeat' (first | exact True.intro | exact SV.le_refl _ | exact Res.le_refl _ | exact SV.le_int (by omega) | exact SV.le_any _ | refine And.intro ?_ ?_))
  rintro ⟨b, l, k⟩ ⟨⟨p1, p2, p3⟩, q1⟩
  have hl1 := q1.1
  have hl7 : allK bsG 7 l := allK_le q1 (by omega)
  conv => whnf
  repeat' (first
    | (refine CallX.of (s64 n L hL _ ?_ ?_ 0 5 ?_ ?_ ?_ ?_) [(1000000, 1000000)] rfl ⟨SV.le_refl _, SV.le_refl _, SV.le_refl _, trivial⟩ ⟨Res.le_refl _, trivial⟩ rfl rfl ?_; rotate_right; rintro x rout ⟨⟨u0, hm3, hm4, rfl⟩, ⟨c, c1, c2, rfl⟩⟩; refine ⟨rfl, ?_⟩; conv => whnf)
    | (refine CallX.of (s84 n L hL _ ?_ ?_ _ ?_) [(1000000, 1000000)] rfl ⟨SV.le_refl _, SV.le_refl _, trivial⟩ ⟨Res.le_refl _, trivial⟩ rfl rfl ?_; rotate_right; rintro x rout ⟨⟨f, rfl⟩, ⟨c, c1, c2, rfl⟩⟩; refine ⟨rfl, ?_⟩; conv => whnf)
    | (refine CallX.of (s86 n L hL _ ?_ ?_ _ ?_) [(1000000, 1000000)] rfl ⟨SV.le_refl _, SV.le_refl _, trivial⟩ ⟨Res.le_refl _, trivial⟩ rfl rfl ?_; rotate_right; rintro x rout ⟨⟨j, hj1, hj2, hj3, rfl⟩, ⟨c, c1, c2, rfl⟩⟩; refine ⟨rfl, ?_⟩; conv => whnf)
    | (refine CallX.of (s33 n L hL _ ?_ ?_ [0, 1, 1, 2, 4] ?_ ?_) [(1000000, 1000000)] rfl ⟨SV.le_refl _, SV.le_lit rfl rfl, trivial⟩ ⟨Res.le_refl _, trivial⟩ rfl rfl ?_; rotate_right; rintro x rout ⟨⟨u1, hu1, rfl⟩, ⟨c, c1, c2, rfl⟩⟩; have hw1 := mem_bd hu1 rfl; refine ⟨rfl, ?_⟩; conv => whnf)
    | (refine CallX.of (s33 n L hL _ ?_ ?_ [0, 50, 50, 80, 100] ?_ ?_) [(1000000, 1000000)] rfl ⟨SV.le_refl _, SV.le_lit rfl rfl, trivial⟩ ⟨Res.le_refl _, trivial⟩ rfl rfl ?_; rotate_right; rintro x rout ⟨⟨u2, hu2, rfl⟩, ⟨c, c1, c2, rfl⟩⟩; refine ⟨rfl, ?_⟩; conv => whnf)
    | (refine CallX.of (s104 n L hL _ ?_ ?_ 0 4001 ?_ ?_ ?_) [(1000000, 1000000)] rfl ⟨SV.le_refl _, SV.le_refl _, SV.le_refl _, trivial⟩ ⟨Res.le_refl _, trivial⟩ rfl rfl ?_; rotate_right; rintro x rout ⟨⟨u5, hk1, hk2, rfl⟩, ⟨c, c1, c2, rfl⟩⟩; refine ⟨rfl, ?_⟩; conv => whnf)
    | (refine CallX.of (s104 n L hL _ ?_ ?_ 0 1000000 ?_ ?_ ?_) [(1000000, 1000000)] rfl ⟨SV.le_refl _, SV.le_refl _, SV.le_refl _, trivial⟩ ⟨Res.le_refl _, trivial⟩ rfl rfl ?_; rotate_right; rintro x rout ⟨⟨u6, hk3, hk4, rfl⟩, ⟨c, c1, c2, rfl⟩⟩; refine ⟨rfl, ?_⟩; conv => whnf)
    | (refine CallX.of (s15 n L hL _ ?_ ?_ [[118, 49], [118, 50], [118, 51], [118, 57]] ?_ ?_) [(1000000, 1000000)] rfl ⟨SV.le_refl _, SV.le_lit rfl rfl, trivial⟩ ⟨Res.le_refl _, trivial⟩ rfl rfl ?_; rotate_right; rintro x rout ⟨⟨u3, hu3, rfl⟩, ⟨c, c1, c2, rfl⟩⟩; refine ⟨rfl, ?_⟩; conv => whnf)
    | (refine CallX.of (s15 n L hL _ ?_ ?_ [_, []] (by simp) (by simp)) [(1000000, 1000000)] rfl ⟨SV.le_refl _, SV.le_lit rfl rfl, trivial⟩ ⟨Res.le_refl _, trivial⟩ rfl rfl ?_; rotate_right; rintro x rout ⟨⟨u3, hu3, rfl⟩, ⟨c, c1, c2, rfl⟩⟩; refine ⟨rfl, ?_⟩; conv => whnf)
    | (refine br_intro (fun hb => ?_) (fun hb => ?_) <;> (try simp only [decide_eq_true_eq, decide_eq_false_iff_not, Bool.not_eq_true', Bool.not_eq_false', Bool.and_eq_true, Bool.or_eq_true, beq_iff_eq, not_and, Int.not_le, Int.not_lt, Int.toNat_natCast, beq_eq_false_iff_ne, ne_eq, eq_self, not_true_eq_false, not_false_eq_true] at hb) <;> (conv => whnf))
    | omega
    | (refine And.intro ?_ ?_; ((try dsimp only); first | omega | (refine ⟨by omega, by omega, Int.le_trans (Int.mul_le_mul_of_nonneg_right (Int.ofNat_le.2 (Nat.le_of_ble_eq_true (rfl : Nat.ble _ 1024 = true))) (by omega)) (by omega), by omega⟩) | (refine Nat.le_trans (Nat.mul_le_mul_left _ (Nat.le_of_ble_eq_true (rfl : Nat.ble _ 1024 = true))) ?_; omega) | (unfold inI64; omega) | (constructor <;> omega) | (simp only [inI64, List.length_cons, List.length_append, List.length_nil, List.length_set] at *; omega) | decide | (unfold inI64; decide)); conv => whnf)
    | omega | decide | assumption)
  · refine ⟨(_, _, k + 1), ?_, ?_, Entails.mk' [(1000000, 1000000), (3, 27)] rfl rfl ⟨SV.le_refl _, SV.le_refl _, SV.le_refl _, SV.le_refl _, trivial⟩ ⟨Res.le_refl _, Res.le_snocF (x := ⟨_, _, _, _⟩) rfl, trivial⟩⟩
    · exact ⟨⟨by omega, by omega, by omega⟩, allK_snoc q1 (Nat.le_refl _) (mem_len hu3 rfl)⟩
    · show 7 - (k + 1) < 7 - k; omega
  · refine .freeze _ 3 225 4 _ _ rfl (.weak _ ?_)
    (conv => whnf)
    have hu3' : u3.length ≤ 8 := by
      have hm := q1.2 _ (getD_mem (l := l) (i := j.toNat) (x := bs0) (by omega))
      simp only [List.mem_cons, List.not_mem_nil, or_false] at hu3
      rcases hu3 with rfl | rfl
      · exact hm
      · simp
    refine ⟨_, [(1000000, strm n L _)], SV.le_upd3 (f := bsF) (d := bs0) (l := l) (fun y => ⟨u3, y.fr, y.to, y.cents⟩) (fun y => ⟨y.v, y.fr, u5, y.cents⟩) (fun y => ⟨y.v, y.fr, y.to, u6⟩) (fun _ => rfl) (fun _ => rfl) (fun _ => rfl), ⟨⟨_, ?_, rfl⟩, _, by omega, by omega, rfl⟩, Res.le_refl _, trivial⟩
    exact allK_upd (g := fun y : Bsy => (⟨y.v, y.fr, y.to, u6⟩ : Bsy)) (allK_upd (g := fun y : Bsy => (⟨y.v, y.fr, u5, y.cents⟩ : Bsy)) (allK_upd (g := fun y : Bsy => (⟨u3, y.fr, y.to, y.cents⟩ : Bsy)) hl7 (fun y hy => (hu3' : bsG ⟨u3, y.fr, y.to, y.cents⟩))) (fun y hy => hy)) (fun y hy => hy)
  all_goals
    refine .freeze _ 3 225 4 _ _ rfl (.weak _ ?_)
    (conv => whnf)
    exact ⟨_, [(1000000, strm n L _)], SV.le_refl _, ⟨⟨l, hl7, rfl⟩, _, by omega, by omega, rfl⟩, Res.le_refl _, trivial⟩
def plG (x : Plc) : Prop := x.v.length ≤ 8
-- placed
theorem s78 (n : Nat) (L : Nat → Int) (hL : Rok n L) (a : Int) (h0 : 0 ≤ a) (ha : a ≤ 2^38) (w : List Wnt) (hw : allK wnG 4 w) :
    FSpec Tryd.prog 78 [.ptr 1000000 0, .d (wnts w)] [(1000000, strm n L a)] (fun y r => (∃ l, allK plG 5 l ∧ y = .d (plcs l)) ∧ Moved n L a 30 r) := by
  have hw4 := hw.1
  refine spec_of hT (C := []) Tryd.func78 rfl Tryd.call78 rfl rfl rfl ?_
  conv => whnf
  refine LoopX.rule hT (C := []) (ι := Int × List Plc × Nat) (fun (b, l, k) => (a ≤ b ∧ b ≤ a + 2 * k ∧ k ≤ w.length) ∧ allK plG k l)
    (fun (b, l, k) => mkSt [(0, .ptr 1000000 0), (5, .buf 5), (9, .d (wnts w)), (10, .d (.int .i64 w.length)), (11, .d (.int .i64 k))] [(1000000, strm n L b), (5, seqB 130 2 plF pl0 l)])
    (fun (_, _, k) => w.length - k) (a, [], 0) ⟨⟨by simp, by simp, by simp⟩, ⟨by simp, by simp⟩⟩ ?_ ?_
  · exact (Entails.nil 5 5 130 2 (rowF plF pl0 []) rfl rfl (by decide)).trans (by refine Entails.mk' [(1000000, 1000000), (5, 5)] rfl rfl ?_ ?_ <;> repeat' (first | exact True.intro | exact SV.le_refl _ | exact Res.le_refl _ | exact SV.le_int (by omega) | exact SV.le_any _ | refine And.intro ?_ ?_))
  rintro ⟨b, l, k⟩ ⟨⟨p1, p2, p3⟩, q1⟩
  have hl1 := q1.1
  have hwk : k < w.length → wnG (w.getD (k : Int).toNat wn0) := fun h => hw.2 _ (getD_mem (by omega))
  have hl7 : allK plG 4 l := allK_le q1 (by omega)
  unfold wnG at hwk
  conv => whnf
  repeat' (first
    | (refine CallX.of (s84 n L hL _ ?_ ?_ _ ?_) [(1000000, 1000000)] rfl ⟨SV.le_refl _, SV.le_refl _, trivial⟩ ⟨Res.le_refl _, trivial⟩ rfl rfl ?_; rotate_right; rintro x rout ⟨⟨f, rfl⟩, ⟨c, c1, c2, rfl⟩⟩; refine ⟨rfl, ?_⟩; conv => whnf)
    | (refine CallX.of (s86 n L hL _ ?_ ?_ _ ?_) [(1000000, 1000000)] rfl ⟨SV.le_refl _, SV.le_refl _, trivial⟩ ⟨Res.le_refl _, trivial⟩ rfl rfl ?_; rotate_right; rintro x rout ⟨⟨j, hj1, hj2, hj3, rfl⟩, ⟨c, c1, c2, rfl⟩⟩; refine ⟨rfl, ?_⟩; conv => whnf)
    | (refine CallX.of (s33 n L hL _ ?_ ?_ [0, 0, 1, 2] ?_ ?_) [(1000000, 1000000)] rfl ⟨SV.le_refl _, SV.le_lit rfl rfl, trivial⟩ ⟨Res.le_refl _, trivial⟩ rfl rfl ?_; rotate_right; rintro x rout ⟨⟨u1, hu1, rfl⟩, ⟨c, c1, c2, rfl⟩⟩; have hw1 := mem_bd hu1 rfl; refine ⟨rfl, ?_⟩; conv => whnf)
    | (refine CallX.of (s104 n L hL _ ?_ ?_ 0 4000 ?_ ?_ ?_) [(1000000, 1000000)] rfl ⟨SV.le_refl _, SV.le_refl _, SV.le_refl _, trivial⟩ ⟨Res.le_refl _, trivial⟩ rfl rfl ?_; rotate_right; rintro x rout ⟨⟨u5, hk1, hk2, rfl⟩, ⟨c, c1, c2, rfl⟩⟩; refine ⟨rfl, ?_⟩; conv => whnf)
    | (refine CallX.of (s15 n L hL _ ?_ ?_ [_, [], [118, 57]] (by simp) (by simp)) [(1000000, 1000000)] rfl ⟨SV.le_refl _, SV.le_lit rfl rfl, trivial⟩ ⟨Res.le_refl _, trivial⟩ rfl rfl ?_; rotate_right; rintro x rout ⟨⟨u3, hu3, rfl⟩, ⟨c, c1, c2, rfl⟩⟩; refine ⟨rfl, ?_⟩; conv => whnf)
    | (refine br_intro (fun hb => ?_) (fun hb => ?_) <;> (try simp only [decide_eq_true_eq, decide_eq_false_iff_not, Bool.not_eq_true', Bool.not_eq_false', Bool.and_eq_true, Bool.or_eq_true, beq_iff_eq, not_and, Int.not_le, Int.not_lt, Int.toNat_natCast, beq_eq_false_iff_ne, ne_eq, eq_self, not_true_eq_false, not_false_eq_true] at hb) <;> (conv => whnf))
    | (refine RegX.rule (id := 5) hT rfl [] [(0, []), (1, [0]), (2, [0]), (3, [0, 1, 2]), (4, [0, 1, 2]), (5, [0, 1, 2, 3, 4]), (6, [0, 1, 2, 3, 4, 5]), (7, [0, 1, 2, 3, 4]), (8, [0, 1, 2]), (9, [0]), (10, [0]), (11, []), (12, [])] (by decide +kernel) ?_; conv => whnf)
    | omega
    | (refine And.intro ?_ ?_; ((try dsimp only); first | omega | (refine ⟨by omega, by omega, Int.le_trans (Int.mul_le_mul_of_nonneg_right (Int.ofNat_le.2 (Nat.le_of_ble_eq_true (rfl : Nat.ble _ 1024 = true))) (by omega)) (by omega), by omega⟩) | (refine Nat.le_trans (Nat.mul_le_mul_left _ (Nat.le_of_ble_eq_true (rfl : Nat.ble _ 1024 = true))) ?_; omega) | (unfold inI64; omega) | (constructor <;> omega) | (simp only [inI64, List.length_cons, List.length_append, List.length_nil, List.length_set] at *; omega) | decide | (unfold inI64; decide)); conv => whnf)
    | omega | decide | assumption)
  · refine ⟨(_, _, k + 1), ?_, ?_, Entails.mk' [(1000000, 1000000), (5, 26)] rfl rfl ⟨SV.le_refl _, SV.le_refl _, SV.le_refl _, SV.le_refl _, SV.le_refl _, trivial⟩ ⟨Res.le_refl _, Res.le_snocF (x := ⟨_, _⟩) rfl, trivial⟩⟩
    · exact ⟨⟨by omega, by omega, by omega⟩, allK_snoc q1 (Nat.le_refl _) (hwk (by omega)).1⟩
    · show w.length - (k + 1) < w.length - k; omega
  · refine .freeze _ 61 130 2 _ _ rfl (.weak _ ?_)
    (conv => whnf)
    have hu3' : u3.length ≤ 8 := by
      have hm := q1.2 _ (getD_mem (l := l) (i := j.toNat) (x := pl0) (by omega))
      simp only [List.mem_cons, List.not_mem_nil, or_false] at hu3
      rcases hu3 with rfl | rfl | rfl
      · exact hm
      · simp
      · simp
    refine ⟨_, [(1000000, strm n L _)], SV.le_upd2_snoc (f := plF) (d := pl0) (l := l) (fun y => ⟨u3, y.day⟩) (fun y => ⟨y.v, u5⟩) ⟨[122], 0⟩ (fun _ => rfl) (fun _ => rfl) rfl, ⟨⟨_, ?_, rfl⟩, _, by omega, by omega, rfl⟩, Res.le_refl _, trivial⟩
    exact allK_snoc (allK_upd (g := fun y : Plc => (⟨y.v, u5⟩ : Plc)) (allK_upd (g := fun y : Plc => (⟨u3, y.day⟩ : Plc)) hl7 (fun y hy => (hu3' : plG ⟨u3, y.day⟩))) (fun y hy => hy)) (Nat.le_refl _) (by show ([122] : List UInt8).length ≤ 8; simp)
  · refine .freeze _ 5 130 2 _ _ rfl (.weak _ ?_)
    (conv => whnf)
    have hu3' : u3.length ≤ 8 := by
      have hm := q1.2 _ (getD_mem (l := l) (i := j.toNat) (x := pl0) (by omega))
      simp only [List.mem_cons, List.not_mem_nil, or_false] at hu3
      rcases hu3 with rfl | rfl | rfl
      · exact hm
      · simp
      · simp
    refine ⟨_, [(1000000, strm n L _)], SV.le_upd2 (f := plF) (d := pl0) (l := l) (fun y => ⟨u3, y.day⟩) (fun y => ⟨y.v, u5⟩) (fun _ => rfl) (fun _ => rfl), ⟨⟨_, ?_, rfl⟩, _, by omega, by omega, rfl⟩, Res.le_refl _, trivial⟩
    exact allK_le (allK_upd (g := fun y : Plc => (⟨y.v, u5⟩ : Plc)) (allK_upd (g := fun y : Plc => (⟨u3, y.day⟩ : Plc)) hl7 (fun y hy => (hu3' : plG ⟨u3, y.day⟩))) (fun y hy => hy)) (by omega)
  all_goals first
    | (refine .freeze _ 61 130 2 _ _ rfl (.weak _ ?_)
       (conv => whnf)
       refine ⟨_, [(1000000, strm n L _)], SV.le_snocF (f := plF) (d := pl0) (x := ⟨[122], 0⟩) rfl, ⟨⟨_, ?_, rfl⟩, _, by omega, by omega, rfl⟩, Res.le_refl _, trivial⟩
       exact allK_snoc hl7 (Nat.le_refl _) (by show ([122] : List UInt8).length ≤ 8; simp))
    | (refine .freeze _ 5 130 2 _ _ rfl (.weak _ ?_)
       (conv => whnf)
       exact ⟨_, [(1000000, strm n L _)], SV.le_refl _, ⟨⟨l, allK_le hl7 (by omega), rfl⟩, _, by omega, by omega, rfl⟩, Res.le_refl _, trivial⟩)
end Go.Proofs.YtellmmmohdjpeaaDoor
set_option maxRecDepth 20000
namespace Go.Proofs.YtellmmmohdjpeaaDoor
open Go Go.Eng
structure Ned where
  st : List UInt8
  many : Int
def ndF : Ned → List DV := fun s => [.str s.st, .int .i64 s.many]
def nd0 : Ned := ⟨[], 0⟩
abbrev neds (l : List Ned) : DV := seqD 2 ndF nd0 l
structure Roa where
  a : List UInt8
  b : List UInt8
  car : Int
  ride : Int
def rdF : Roa → List DV := fun s => [.str s.a, .str s.b, .int .i64 s.car, .int .i64 s.ride]
def rd0 : Roa := ⟨[], [], 0, 0⟩
abbrev roas (l : List Roa) : DV := seqD 4 rdF rd0 l
structure Mov where
  a : List UInt8
  b : List UInt8
  many : Int
def mvF : Mov → List DV := fun s => [.str s.a, .str s.b, .int .i64 s.many]
def mv0 : Mov := ⟨[], [], 0⟩
abbrev movs (l : List Mov) : DV := seqD 3 mvF mv0 l
def ndE (l : List Ned) (i : Nat) : Int :=
  let x := l.getD i nd0
  if isKeyB x.st = false then 5 else if 0 < i ∧ strLe x.st (l.getD (i - 1) nd0).st = true then 7 else if ¬ (-20 ≤ x.many ∧ x.many ≤ 20) then 1 else 0
def ndsE (l : List Ned) : Int := if 10 < l.length then 2 else firstAt (ndE l) l.length
def ndK (x : Ned) : Prop := x.st.length ≤ 2^40
def ndOk (l : List Ned) : Prop := l.length ≤ 2^40 ∧ ∀ x ∈ l, ndK x
def endsC (a b c d : List UInt8) : Int := firstE [cmpS a c, cmpS b d]
def rdE (l : List Roa) (i : Nat) : Int :=
  let x := l.getD i rd0
  if isKeyB x.a = false ∨ isKeyB x.b = false then 5 else if x.a = x.b then 14 else if 0 < i ∧ 0 ≤ endsC (l.getD (i - 1) rd0).a (l.getD (i - 1) rd0).b x.a x.b then 7 else if ¬ ((0 ≤ x.car ∧ x.car ≤ 1000000) ∧ (0 ≤ x.ride ∧ x.ride ≤ 1000000)) then 1 else 0
def rdsE (l : List Roa) : Int := if 2500 < l.length then 2 else firstAt (rdE l) l.length
def rdK (x : Roa) : Prop := x.a.length ≤ 2^40 ∧ x.b.length ≤ 2^40
def rdOk (l : List Roa) : Prop := l.length ≤ 2^40 ∧ ∀ x ∈ l, rdK x
-- shift.byEnds
theorem s204 (a b c d : List UInt8) : FSpec Tryd.prog 204 [.d (.str a), .d (.str b), .d (.str c), .d (.str d)] [] (fun x r => x = .d (.int .i64 (endsC a b c d)) ∧ r = []) := by
  refine spec_of hT (C := []) Tryd.func204 rfl Tryd.call204 rfl rfl rfl ?_
  conv => whnf
  repeat' (first
    | (refine CallX.exact (s184 _ _) rfl rfl ?_; rotate_right; conv => whnf)
    | (refine CallX.pure (s182 [_, _] (by simp)) ⟨SV.le_lit (by rfl) (by rfl), trivial⟩ rfl ?_; conv => whnf)
    | (refine br_intro (fun hb => ?_) (fun hb => ?_) <;> (try simp only [decide_eq_true_eq, decide_eq_false_iff_not, Bool.not_eq_true', Bool.not_eq_false', Bool.and_eq_true, Bool.or_eq_true, beq_iff_eq, not_and, Int.not_le, Int.not_lt, Int.toNat_natCast, beq_eq_false_iff_ne, ne_eq, eq_self, not_true_eq_false, not_false_eq_true] at hb) <;> (conv => whnf))
    | omega
    | (refine And.intro ?_ ?_; ((try dsimp only); first | omega | (refine ⟨by omega, by omega, Int.le_trans (Int.mul_le_mul_of_nonneg_right (Int.ofNat_le.2 (Nat.le_of_ble_eq_true (rfl : Nat.ble _ 1024 = true))) (by omega)) (by omega), by omega⟩) | (refine Nat.le_trans (Nat.mul_le_mul_left _ (Nat.le_of_ble_eq_true (rfl : Nat.ble _ 1024 = true))) ?_; omega) | (unfold inI64; omega) | (constructor <;> omega) | (simp only [inI64, List.length_cons, List.length_append, List.length_nil, List.length_set] at *; omega) | decide | (unfold inI64; decide)); conv => whnf)
    | omega | decide | assumption)
  refine .ret _ ?_
  conv => whnf
  refine ⟨[], ⟨?_, rfl⟩, trivial⟩
  conv => lhs; whnf
  rfl
-- shift.CheckNeeds
theorem s163 (l : List Ned) (hk : ndOk l) : FSpec Tryd.prog 163 [.d (neds l)] [] (fun x r => x = .d (.int .i64 (ndsE l)) ∧ r = []) := by
  refine spec_of hT (C := []) Tryd.func163 rfl Tryd.call163 rfl rfl rfl ?_
  conv => whnf
  refine br_intro (fun h0 => ?_) (fun h0 => ?_)
  · simp at h0
    conv => whnf
    refine .ret _ ?_
    conv => whnf
    refine ⟨[], ⟨?_, rfl⟩, trivial⟩
    conv => lhs; whnf
    unfold ndsE; rw [if_pos (by omega)]
  simp at h0
  conv => whnf
  refine LoopX.rule hT (C := []) (ι := Nat) (fun i => i ≤ l.length ∧ ∀ j, j < i → ndE l j = 0) (fun i => mkSt [(0, .d (neds l)), (8, .d (neds l)), (9, .d (.int .i64 l.length)), (10, .d (.int .i64 i))] []) (fun i => l.length - i) 0 ⟨by omega, by omega⟩ (by refine Entails.mk' [] rfl rfl ?_ ?_ <;> repeat' (first | exact True.intro | exact SV.le_refl _ | exact Res.le_refl _ | exact SV.le_int (by omega) | exact SV.le_any _ | refine And.intro ?_ ?_)) ?_
  rintro i ⟨p1, p2⟩
  have hx : (i : Int) < l.length → ndK (l.getD (i : Int).toNat nd0) := fun hi => hk.2 _ (getD_mem (by omega))
  have e1 : (i : Int).toNat = i := Int.toNat_natCast i
  have hbad : ∀ e : Int, i < l.length → e ≠ 0 → ndE l i = e → ndsE l = e := fun e h h1 h2 => by
    unfold ndsE; rw [if_neg (by omega)]
    exact firstAt_eq h p2 h1 h2
  conv => whnf
  repeat' (first
    | (refine CallX.exact (s108 _ (hx (by omega))) rfl rfl ?_; rotate_right; conv => whnf)
    | (refine CallX.exact (s119 _ _ _) rfl rfl ?_; rotate_right; conv => whnf)
    | (refine br_intro (fun hb => ?_) (fun hb => ?_) <;> (try simp only [decide_eq_true_eq, decide_eq_false_iff_not, Bool.not_eq_true', Bool.not_eq_false', Bool.and_eq_true, Bool.or_eq_true, beq_iff_eq, not_and, Int.not_le, Int.not_lt, Int.toNat_natCast, beq_eq_false_iff_ne, ne_eq, eq_self, not_true_eq_false, not_false_eq_true] at hb) <;> (conv => whnf))
    | (refine RegX.rule (id := 8) hT rfl [] [(0, []), (1, []), (2, []), (3, []), (4, []), (5, [3, 4]), (6, [3, 4, 5]), (7, [3, 4, 5]), (8, [3, 4]), (9, [3, 4]), (10, [3, 4]), (11, []), (12, []), (13, [])] (by decide +kernel) ?_; conv => whnf)
    | omega
    | (refine And.intro ?_ ?_; ((try dsimp only); first | omega | (refine ⟨by omega, by omega, Int.le_trans (Int.mul_le_mul_of_nonneg_right (Int.ofNat_le.2 (Nat.le_of_ble_eq_true (rfl : Nat.ble _ 1024 = true))) (by omega)) (by omega), by omega⟩) | (refine Nat.le_trans (Nat.mul_le_mul_left _ (Nat.le_of_ble_eq_true (rfl : Nat.ble _ 1024 = true))) ?_; omega) | (unfold inI64; omega) | (constructor <;> omega) | (simp only [inI64, List.length_cons, List.length_append, List.length_nil, List.length_set] at *; omega) | decide | (unfold inI64; decide)); conv => whnf)
    | omega | decide | assumption)
  all_goals first
    | (refine ⟨i + 1, ⟨by omega, first_step p2 (by clear p2 hbad hk hx; simp only [e1, toNat_pred] at *; unfold ndE strLe; grind)⟩, by omega, (by refine Entails.mk' [] rfl rfl ?_ ?_ <;> repeat' (first | exact True.intro | exact SV.le_refl _ | exact Res.le_refl _ | exact SV.le_int (by omega) | exact SV.le_any _ | refine And.intro ?_ ?_))⟩)
    | (refine .ret _ ?_
       conv => whnf
       refine ⟨[], ⟨?_, rfl⟩, trivial⟩
       conv => lhs; whnf
       congr 2
       first
         | exact (hbad _ (by omega) (by decide) (by clear p2 hbad hk hx; simp only [e1, toNat_pred] at *; unfold ndE strLe; grind)).symm
         | (have : i = l.length := by omega
            subst this
            unfold ndsE; rw [if_neg (by omega), firstAt_zero p2]))
-- shift.CheckRoads
theorem s164 (l : List Roa) (hk : rdOk l) : FSpec Tryd.prog 164 [.d (roas l)] [] (fun x r => x = .d (.int .i64 (rdsE l)) ∧ r = []) := by
  refine spec_of hT (C := []) Tryd.func164 rfl Tryd.call164 rfl rfl rfl ?_
  conv => whnf
  refine br_intro (fun h0 => ?_) (fun h0 => ?_)
  · simp at h0
    conv => whnf
    refine .ret _ ?_
    conv => whnf
    refine ⟨[], ⟨?_, rfl⟩, trivial⟩
    conv => lhs; whnf
    unfold rdsE; rw [if_pos (by omega)]
  simp at h0
  conv => whnf
  refine LoopX.rule hT (C := []) (ι := Nat) (fun i => i ≤ l.length ∧ ∀ j, j < i → rdE l j = 0) (fun i => mkSt [(0, .d (roas l)), (8, .d (roas l)), (9, .d (.int .i64 l.length)), (10, .d (.int .i64 i))] []) (fun i => l.length - i) 0 ⟨by omega, by omega⟩ (by refine Entails.mk' [] rfl rfl ?_ ?_ <;> repeat' (first | exact True.intro | exact SV.le_refl _ | exact Res.le_refl _ | exact SV.le_int (by omega) | exact SV.le_any _ | refine And.intro ?_ ?_)) ?_
  rintro i ⟨p1, p2⟩
  have hx : (i : Int) < l.length → rdK (l.getD (i : Int).toNat rd0) := fun hi => hk.2 _ (getD_mem (by omega))
  have e1 : (i : Int).toNat = i := Int.toNat_natCast i
  have hbad : ∀ e : Int, i < l.length → e ≠ 0 → rdE l i = e → rdsE l = e := fun e h h1 h2 => by
    unfold rdsE; rw [if_neg (by omega)]
    exact firstAt_eq h p2 h1 h2
  conv => whnf
  repeat' (first
    | (refine CallX.exact (s108 _ (hx (by omega)).1) rfl rfl ?_; rotate_right; conv => whnf)
    | (refine CallX.exact (s108 _ (hx (by omega)).2) rfl rfl ?_; rotate_right; conv => whnf)
    | (refine CallX.exact (s204 _ _ _ _) rfl rfl ?_; rotate_right; conv => whnf)
    | (refine CallX.exact (s119 _ _ _) rfl rfl ?_; rotate_right; conv => whnf)
    | (refine br_intro (fun hb => ?_) (fun hb => ?_) <;> (try simp only [decide_eq_true_eq, decide_eq_false_iff_not, Bool.not_eq_true', Bool.not_eq_false', Bool.and_eq_true, Bool.or_eq_true, beq_iff_eq, not_and, Int.not_le, Int.not_lt, Int.toNat_natCast, beq_eq_false_iff_ne, ne_eq, eq_self, not_true_eq_false, not_false_eq_true] at hb) <;> (conv => whnf))
    | (refine RegX.rule (id := 10) hT rfl [] [(0, []), (1, []), (2, []), (3, []), (4, [3]), (5, [3]), (6, []), (7, []), (8, []), (9, [3, 4, 5, 6, 7, 8]), (10, [3, 4, 5, 6, 7, 8, 9]), (11, [3, 4, 5, 6, 7, 8, 9]), (12, [3, 4, 5, 6, 7, 8]), (13, [3, 4, 5, 6, 7, 8]), (14, [3, 4, 5, 6, 7, 8]), (15, [3, 4, 5, 6, 7, 8, 9, 10, 11, 12, 13, 14]), (16, [3, 4, 5, 6, 7, 8, 9, 10, 11, 12, 13, 14]), (17, [3, 4, 5, 6, 7, 8, 9, 10, 11, 12, 13, 14, 15, 16]), (18, [3, 4, 5, 6, 7, 8, 9, 10, 11, 12, 13, 14, 15, 16]), (19, []), (20, []), (21, []), (22, [])] (by decide +kernel) ?_; conv => whnf)
    | omega
    | (refine And.intro ?_ ?_; ((try dsimp only); first | omega | (refine ⟨by omega, by omega, Int.le_trans (Int.mul_le_mul_of_nonneg_right (Int.ofNat_le.2 (Nat.le_of_ble_eq_true (rfl : Nat.ble _ 1024 = true))) (by omega)) (by omega), by omega⟩) | (refine Nat.le_trans (Nat.mul_le_mul_left _ (Nat.le_of_ble_eq_true (rfl : Nat.ble _ 1024 = true))) ?_; omega) | (unfold inI64; omega) | (constructor <;> omega) | (simp only [inI64, List.length_cons, List.length_append, List.length_nil, List.length_set] at *; omega) | decide | (unfold inI64; decide)); conv => whnf)
    | omega | decide | assumption)
  all_goals first
    | (refine ⟨i + 1, ⟨by omega, first_step p2 (by clear p2 hbad hk hx; simp only [e1, toNat_pred] at *; unfold rdE ; grind)⟩, by omega, (by refine Entails.mk' [] rfl rfl ?_ ?_ <;> repeat' (first | exact True.intro | exact SV.le_refl _ | exact Res.le_refl _ | exact SV.le_int (by omega) | exact SV.le_any _ | refine And.intro ?_ ?_))⟩)
    | (refine .ret _ ?_
       conv => whnf
       refine ⟨[], ⟨?_, rfl⟩, trivial⟩
       conv => lhs; whnf
       congr 2
       first
         | exact (hbad _ (by omega) (by decide) (by clear p2 hbad hk hx; simp only [e1, toNat_pred] at *; unfold rdE ; grind)).symm
         | (have : i = l.length := by omega
            subst this
            unfold rdsE; rw [if_neg (by omega), firstAt_zero p2]))
-- shift.checkTask
theorem s113 (l : List Ned) (m : List Roa) (hl : ndOk l) (hm : rdOk m) : FSpec Tryd.prog 113 [.d (neds l), .d (roas m)] [] (fun x r => x = .d (.int .i64 (firstE [ndsE l, rdsE m])) ∧ r = []) := by
  refine spec_of hT (C := []) Tryd.func113 rfl Tryd.call113 rfl rfl rfl ?_
  conv => whnf
  repeat' (first
    | (refine CallX.exact (s163 l hl) rfl rfl ?_; rotate_right; conv => whnf)
    | (refine CallX.exact (s164 m hm) rfl rfl ?_; rotate_right; conv => whnf)
    | (refine CallX.pure (s105 [_, _] (by simp)) ⟨SV.le_lit (by rfl) (by rfl), trivial⟩ rfl ?_; conv => whnf)
    | (refine br_intro (fun hb => ?_) (fun hb => ?_) <;> (try simp only [decide_eq_true_eq, decide_eq_false_iff_not, Bool.not_eq_true', Bool.not_eq_false', Bool.and_eq_true, Bool.or_eq_true, beq_iff_eq, not_and, Int.not_le, Int.not_lt, Int.toNat_natCast, beq_eq_false_iff_ne, ne_eq, eq_self, not_true_eq_false, not_false_eq_true] at hb) <;> (conv => whnf))
    | omega
    | (refine And.intro ?_ ?_; ((try dsimp only); first | omega | (refine ⟨by omega, by omega, Int.le_trans (Int.mul_le_mul_of_nonneg_right (Int.ofNat_le.2 (Nat.le_of_ble_eq_true (rfl : Nat.ble _ 1024 = true))) (by omega)) (by omega), by omega⟩) | (refine Nat.le_trans (Nat.mul_le_mul_left _ (Nat.le_of_ble_eq_true (rfl : Nat.ble _ 1024 = true))) ?_; omega) | (unfold inI64; omega) | (constructor <;> omega) | (simp only [inI64, List.length_cons, List.length_append, List.length_nil, List.length_set] at *; omega) | decide | (unfold inI64; decide)); conv => whnf)
    | omega | decide | assumption)
  refine .ret _ ?_
  conv => whnf
  refine ⟨[], ⟨?_, rfl⟩, trivial⟩
  conv => lhs; whnf
-- the program's own try
def tN : List Ned := [⟨[97], 1⟩, ⟨[98], -1⟩]
def tR : List Roa := [⟨[97], [98], 4, 0⟩]
theorem s113t : FSpec Tryd.prog 113 [.d (neds tN), .d (roas tR)] [] (fun x r => x = .d (.int .i64 0) ∧ r = []) := by
  have h := s113 tN tR ⟨by simp [tN], by intro x hx; simp [tN] at hx; rcases hx with rfl | rfl <;> simp [ndK]⟩ ⟨by simp [tR], by intro x hx; simp [tR] at hx; subst hx; simp [rdK]⟩
  rwa [show firstE [ndsE tN, rdsE tR] = 0 by decide] at h
end Go.Proofs.YtellmmmohdjpeaaDoor
set_option maxRecDepth 20000
namespace Go.Proofs.YtellmmmohdjpeaaDoor
open Go Go.Eng
def nHas (l : List Roa) : Nat → List DV → Bool
  | 0 => fun _ => false
  | n + 1 => fun q => keyEq q [.str (l.getD n rd0).a, .str (l.getD n rd0).b] || nHas l n q
def nVal (l : List Roa) : Nat → List DV → List DV
  | 0 => fun _ => [.str [], .str [], .int .i64 0, .int .i64 0]
  | n + 1 => fun q => bif keyEq q [.str (l.getD n rd0).a, .str (l.getD n rd0).b] then rdF (l.getD n rd0) else nVal l n q
abbrev netR (l : List Roa) (n : Nat) : Res := .map true true [.str, .str] [.str [], .str [], .int .i64 0, .int .i64 0] (nHas l n) (nVal l n)
-- shift.netOf
theorem s165 (l : List Roa) (hl : l.length ≤ 2^40) : FSpec Tryd.prog 165 [.d (roas l)] [] (fun y r => y = .mp 3 ∧ r = [(3, netR l l.length)]) := by
  refine spec_of hT (C := []) Tryd.func165 rfl Tryd.call165 rfl rfl rfl ?_
  conv => whnf
  refine LoopX.rule hT (C := []) (ι := Nat) (fun i => i ≤ l.length) (fun i => mkSt [(3, .mp 3), (7, .d (roas l)), (8, .d (.int .i64 l.length)), (9, .d (.int .i64 i))] [(3, netR l i)]) (fun i => l.length - i) 0 (by omega) ?_ ?_
  · exact Entails.mk' [(3, 6)] rfl rfl ⟨SV.le_refl _, SV.le_refl _, SV.le_refl _, SV.le_refl _, trivial⟩ ⟨Res.le_refl _, trivial⟩
  rintro i p1
  conv => whnf
  repeat' (first
    | (refine br_intro (fun hb => ?_) (fun hb => ?_) <;> (try simp only [decide_eq_true_eq, decide_eq_false_iff_not, Bool.not_eq_true', Bool.not_eq_false', Bool.and_eq_true, Bool.or_eq_true, beq_iff_eq, not_and, Int.not_le, Int.not_lt, Int.toNat_natCast, beq_eq_false_iff_ne, ne_eq, eq_self, not_true_eq_false, not_false_eq_true] at hb) <;> (conv => whnf))
    | omega
    | (refine And.intro ?_ ?_; ((try dsimp only); first | omega | (refine ⟨by omega, by omega, Int.le_trans (Int.mul_le_mul_of_nonneg_right (Int.ofNat_le.2 (Nat.le_of_ble_eq_true (rfl : Nat.ble _ 1024 = true))) (by omega)) (by omega), by omega⟩) | (refine Nat.le_trans (Nat.mul_le_mul_left _ (Nat.le_of_ble_eq_true (rfl : Nat.ble _ 1024 = true))) ?_; omega) | (unfold inI64; omega) | (constructor <;> omega) | (simp only [inI64, List.length_cons, List.length_append, List.length_nil, List.length_set] at *; omega) | decide | (unfold inI64; decide)); conv => whnf)
    | omega | decide | assumption)
  · exact ⟨i + 1, by omega, by omega, Entails.mk' [(3, 3)] rfl rfl ⟨SV.le_refl _, SV.le_refl _, SV.le_refl _, SV.le_refl _, trivial⟩ ⟨Res.le_refl _, trivial⟩⟩
  · have : i = l.length := by omega
    subst this
    refine .ret _ ?_
    conv => whnf
    exact ⟨_, ⟨rfl, rfl⟩, Res.le_refl _, trivial⟩
structure Arc where
  fr : Int
  to : Int
  car : Int
  flow : Int
def arF : Arc → List DV := fun s => [.int .i64 s.fr, .int .i64 s.to, .int .i64 s.car, .int .i64 s.flow]
def ar0 : Arc := ⟨0, 0, 0, 0⟩
abbrev froI (l : List Int) : Res := .fro 1 l.length (rowF iF 0 l)
abbrev arcB (l : List Arc) : Res := seqB 183 4 arF ar0 l
set_option maxHeartbeats 4000000 in
-- shift.transportOf, of the try
theorem s114t : FSpec Tryd.prog 114 [.d (neds tN), .d (roas tR)] [] (fun y r => y = .ptr 20 0 ∧ r = [(20, .cells 181 [.buf 15, .buf 18, .buf 88]), (15, froI [1, 0]), (18, froI [0, 1]), (88, arcB [⟨0, 1, 4, 0⟩])]) := by
  refine spec_of hT (C := []) Tryd.func114 rfl Tryd.call114 rfl rfl rfl ?_
  conv => whnf
  repeat' (first
    | (refine CallX.of (s165 tR (by simp [tR])) [(3, 22)] rfl ⟨SV.le_refl _, trivial⟩ trivial rfl rfl ?_; rintro x rout ⟨rfl, rfl⟩; refine ⟨rfl, ?_⟩; conv => whnf)
    | (refine LoopX.run hT (C := []) 8 rfl [0, 5, 6, 23, 24, 25] [] (fun _ _ h => h) (fun _ h => h) ?_; conv => whnf)
    | (refine LoopX.run hT (C := []) 16 rfl [0, 5, 6, 7, 8, 23, 24, 25, 49, 50, 51] [] (fun _ _ h => h) (fun _ h => h) ?_; conv => whnf)
    | (refine And.intro (rfl : zrow _ = some [.str [], .str [], .int .i64 0, .int .i64 0]) ?_; conv => whnf)
    | (refine br_intro (fun hb => ?_) (fun hb => ?_) <;> (try simp only [decide_eq_true_eq, decide_eq_false_iff_not, Bool.not_eq_true', Bool.not_eq_false', Bool.and_eq_true, Bool.or_eq_true, beq_iff_eq, not_and, Int.not_le, Int.not_lt, Int.toNat_natCast, beq_eq_false_iff_ne, ne_eq, eq_self, not_true_eq_false, not_false_eq_true] at hb) <;> (conv => whnf))
    | (refine RegX.rule (id := 1) hT rfl [] [(0, []), (1, []), (2, []), (3, [0, 1, 2]), (4, [0, 1, 2]), (5, [0, 1, 2]), (6, []), (7, []), (8, [])] (by decide +kernel) ?_; conv => whnf)
    | (refine RegX.rule (id := 6) hT rfl [] [(0, []), (1, []), (2, []), (3, []), (4, [0, 1, 2, 3]), (5, [0, 1, 2, 3, 4]), (6, [0, 1, 2, 3, 4]), (7, [0, 1, 2, 3, 4]), (8, [0, 1, 2, 3, 4]), (9, [0, 1, 2, 3, 4, 5, 6, 7, 8]), (10, [0, 1, 2, 3, 4, 5, 6, 7, 8, 9]), (11, [0, 1, 2, 3, 4, 5, 6, 7, 8, 9]), (12, [0, 1, 2, 3, 4, 5, 6, 7, 8, 9]), (13, [0, 1, 2, 3, 4, 5, 6, 7, 8, 9, 10, 11, 12]), (14, [0, 1, 2, 3, 4, 5, 6, 7, 8, 9, 10, 11, 12]), (15, [0, 1, 2, 3, 4, 5, 6, 7, 8, 9, 10, 11, 12]), (16, [0, 1, 2, 3, 4, 5, 6, 7, 8, 9, 10, 11, 12]), (17, [9, 13, 14, 15, 16]), (18, [9, 13, 14, 15, 16]), (19, []), (20, [])] (by decide +kernel) ?_; conv => whnf)
    | (refine RegX.rule (id := 12) hT rfl [] [(0, []), (1, [0]), (2, [0]), (3, [0]), (4, [0]), (5, [0, 1, 2, 3, 4]), (6, [0, 1, 2, 3, 4, 5]), (7, [0, 1, 2, 3, 4, 5, 6]), (8, [0, 1, 2, 3, 4, 5, 6]), (9, [0, 1, 2, 3, 4]), (10, [0, 1, 2, 3, 4]), (11, [0]), (12, []), (13, []), (14, [])] (by decide +kernel) ?_; conv => whnf)
    | omega
    | (refine And.intro ?_ ?_; ((try dsimp only); first | omega | (refine ⟨by omega, by omega, Int.le_trans (Int.mul_le_mul_of_nonneg_right (Int.ofNat_le.2 (Nat.le_of_ble_eq_true (rfl : Nat.ble _ 1024 = true))) (by omega)) (by omega), by omega⟩) | (refine Nat.le_trans (Nat.mul_le_mul_left _ (Nat.le_of_ble_eq_true (rfl : Nat.ble _ 1024 = true))) ?_; omega) | (unfold inI64; omega) | (constructor <;> omega) | (simp only [inI64, List.length_cons, List.length_append, List.length_nil, List.length_set] at *; omega) | decide | (unfold inI64; decide)); conv => whnf)
    | omega | decide | assumption)
  refine .freeze _ 15 3 1 _ _ rfl (.freeze _ 18 3 1 _ _ rfl (.ret _ ?_))
  conv => whnf
  refine ⟨_, ⟨rfl, rfl⟩, Res.le_refl _, Res.le_fro rfl ?_, Res.le_fro rfl ?_, Res.le_buf rfl ?_, trivial⟩
  · intro i hi
    have : i = 0 ∨ i = 1 := by simp [tN] at hi; omega
    rcases this with rfl | rfl <;> rfl
  · intro i hi
    have : i = 0 ∨ i = 1 := by simp [tN] at hi; omega
    rcases this with rfl | rfl <;> rfl
  · intro i hi
    have : i = 0 := by simp at hi; omega
    subst this; rfl
-- slices.Clone of numbers
theorem s166 (l : List Int) (hl : l.length ≤ 2^20) (h0 : 0 < l.length) : FSpec Tryd.prog 166 [.d (ints l)] [] (fun y r => y = .buf 7 ∧ r = [(7, seqB 3 1 iF 0 l)]) := by
  refine spec_of hT (C := [5]) Tryd.func166 rfl Tryd.call166 rfl rfl rfl ?_
  conv => whnf
  rintro b hbn
  conv => whnf
  repeat' (first
    | (refine br_intro (fun hb => ?_) (fun hb => ?_) <;> (try simp only [decide_eq_true_eq, decide_eq_false_iff_not, Bool.not_eq_true', Bool.not_eq_false', Bool.and_eq_true, Bool.or_eq_true, beq_iff_eq, not_and, Int.not_le, Int.not_lt, Int.toNat_natCast, beq_eq_false_iff_ne, ne_eq, eq_self, not_true_eq_false, not_false_eq_true] at hb) <;> (conv => whnf))
    | omega
    | (refine And.intro ?_ ?_; ((try dsimp only); first | omega | (refine ⟨by omega, by omega, Int.le_trans (Int.mul_le_mul_of_nonneg_right (Int.ofNat_le.2 (Nat.le_of_ble_eq_true (rfl : Nat.ble _ 1024 = true))) (by omega)) (by omega), by omega⟩) | (refine Nat.le_trans (Nat.mul_le_mul_left _ (Nat.le_of_ble_eq_true (rfl : Nat.ble _ 1024 = true))) ?_; omega) | (unfold inI64; omega) | (constructor <;> omega) | (simp only [inI64, List.length_cons, List.length_append, List.length_nil, List.length_set] at *; omega) | decide | (unfold inI64; decide)); conv => whnf)
    | omega | decide | assumption)
  · exact absurd (hbn (by assumption)) (by omega)
  · refine .ret _ ?_
    conv => whnf
    refine ⟨_, ⟨rfl, rfl⟩, Res.le_buf (by simp) (fun i hi => ?_), trivial⟩
    rw [appGet_ge (by omega)]; rfl
-- slices.Clone of no arcs
theorem s168e (g : Nat → List DV) : FSpec Tryd.prog 168 [.d (.ro 4 0 g)] [] (fun y r => y = .d (seqD 4 arF ar0 []) ∧ r = []) := by
  refine spec_of hT (C := [5]) Tryd.func168 rfl Tryd.call168 rfl rfl rfl ?_
  conv => whnf
  rintro b hbn
  conv => whnf
  repeat' (first
    | (refine br_intro (fun hb => ?_) (fun hb => ?_) <;> (try simp only [decide_eq_true_eq, decide_eq_false_iff_not, Bool.not_eq_true', Bool.not_eq_false', Bool.and_eq_true, Bool.or_eq_true, beq_iff_eq, not_and, Int.not_le, Int.not_lt, Int.toNat_natCast, beq_eq_false_iff_ne, ne_eq, eq_self, not_true_eq_false, not_false_eq_true] at hb) <;> (conv => whnf))
    | omega
    | (refine And.intro ?_ ?_; ((try dsimp only); first | omega | (refine ⟨by omega, by omega, Int.le_trans (Int.mul_le_mul_of_nonneg_right (Int.ofNat_le.2 (Nat.le_of_ble_eq_true (rfl : Nat.ble _ 1024 = true))) (by omega)) (by omega), by omega⟩) | (refine Nat.le_trans (Nat.mul_le_mul_left _ (Nat.le_of_ble_eq_true (rfl : Nat.ble _ 1024 = true))) ?_; omega) | (unfold inI64; omega) | (constructor <;> omega) | (simp only [inI64, List.length_cons, List.length_append, List.length_nil, List.length_set] at *; omega) | decide | (unfold inI64; decide)); conv => whnf)
    | omega | decide | assumption)
  · refine .weak _ ?_
    conv => whnf
    exact ⟨_, [], SV.le_nilS, ⟨rfl, rfl⟩, trivial⟩
  · refine .freeze _ 7 183 4 _ _ rfl (.weak _ ?_)
    conv => whnf
    exact ⟨_, [], SV.le_ro (by simp) (fun i hi => absurd hi (by simp)), ⟨rfl, rfl⟩, trivial⟩
end Go.Proofs.YtellmmmohdjpeaaDoor
