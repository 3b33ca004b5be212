/- RoundsAreShortest is proved: for every input the law returns true, and its argument reads afterwards as it read before. Conditions: those of the given row alone. -/
import Derived.Test.YtnkdlkgannnfhaaGreatDoorRaConTwo
import Derived.Test.YtnkdlkgannnfhaaGreatDoorRaConOne
set_option linter.unusedVariables false
set_option linter.unusedSimpArgs false
set_option maxRecDepth 20000
namespace Go.Proofs.YtnkdlkgannnfhaaGreatDoor
open Go Go.Eng
def ordE (n : Nat) (o : List Int) (i : Nat) : Int := if ¬ (0 ≤ o.getD i 0 ∧ o.getD i 0 ≤ (n : Int) - 1) then 8 else if (o.take i).contains (o.getD i 0) = true then 6 else 0
def rcE (l : List Roa) (start : List UInt8) (m : List Mov) (o : List Int) : Int :=
  if drvE l start m ≠ 0 then drvE l start m else if o.length ≠ m.length then 3 else if firstAt (ordE m.length o) o.length ≠ 0 then firstAt (ordE m.length o) o.length else if (roundO l start m o).isSome = true then 0 else 8
theorem ordE_ok {n : Nat} {o : List Int} (h : ∀ j, j < o.length → ordE n o j = 0) : ordOk n o := fun x hx => by
  obtain ⟨j, hj, rfl⟩ := List.mem_iff_getElem.1 hx
  have := h j hj
  unfold ordE at this
  rw [show o.getD j 0 = o[j] by rw [List.getD_eq_getElem?_getD, List.getElem?_eq_getElem hj]; rfl] at this
  split at this
  · cases this
  · omega
-- shift.RoundCost
set_option maxHeartbeats 4000000 in
theorem z55 (l : List Roa) (start : List UInt8) (m : List Mov) (o : List Int) (hrl : rdOk l) (hs : start.length ≤ 2^40) (hml : mvOk m) (hm : m.length ≤ 1000) (ho : o.length ≤ 1001) :
    FSpec Tryz.prog 55 [.d (roas l), .d (.str start), .d (movs m), .d (ints o)] [] (fun y r => y = .tup [.d (.int .i64 (if rcE l start m o = 0 then (roundO l start m o).getD 0 else 0)), .d (.int .i64 (rcE l start m o))] ∧ r = []) := by
  have h134 := z134 l start m hrl hs hml
  have h107 : FSpec Tryz.prog 121 [.d (.bool (!decide ((o.length : Int) = (m.length : Int)))), .d (.int .i64 3)] [] (fun x r => x = .d (.int .i64 (if o.length = m.length then 0 else 3)) ∧ r = []) := by
    have h := s107 (!decide ((o.length : Int) = (m.length : Int))) 3
    by_cases e : o.length = m.length
    · rw [if_pos e]; rw [decide_eq_true (by omega)] at h ⊢; exact h
    · rw [if_neg e]; rw [decide_eq_false (by omega)] at h ⊢; exact h
  have h105 := s105 [drvE l start m, if o.length = m.length then 0 else 3] (by simp)
  by_cases hE : drvE l start m = 0 ∧ o.length = m.length
  · obtain ⟨hd, hlen⟩ := hE
    rw [show firstE [drvE l start m, if o.length = m.length then 0 else 3] = 0 from by rw [hd, if_pos hlen]; rfl] at h105
    have hrc : rcE l start m o = if firstAt (ordE m.length o) o.length ≠ 0 then firstAt (ordE m.length o) o.length else if (roundO l start m o).isSome = true then 0 else 8 := by
      unfold rcE; rw [if_neg (by omega), if_neg (by omega)]
    rw [hrc]
    obtain ⟨hl, _, _⟩ := drvE_zero hd
    have hl2 := (rds_all hl).1
    have h117 := z117 l hl
    refine spec_of hT (C := []) Tryz.func55 rfl Tryz.call55 rfl rfl rfl ?_
    conv => whnf
    repeat' (first
      | (refine CallX.exact (h134) rfl rfl ?_; rotate_right; conv => whnf)
      | (refine CallX.exact (h107) rfl rfl ?_; rotate_right; conv => whnf)
      | (refine CallX.pure h105 ⟨SV.le_lit (by rfl) (by rfl), trivial⟩ rfl ?_; conv => whnf)
      | (refine br_intro (fun hb => ?_) (fun hb => ?_) <;> (try simp only [decide_eq_true_eq, decide_eq_false_iff_not, Bool.not_eq_true', Bool.not_eq_false', Bool.and_eq_true, Bool.or_eq_true, beq_iff_eq, not_and, Int.not_le, Int.not_lt, Int.toNat_natCast, beq_eq_false_iff_ne, ne_eq, eq_self, not_true_eq_false, not_false_eq_true] at hb) <;> (conv => whnf))
      | omega
      | (refine And.intro ?_ ?_; ((try dsimp only); first | omega | (refine ⟨by omega, by omega, Int.le_trans (Int.mul_le_mul_of_nonneg_right (Int.ofNat_le.2 (Nat.le_of_ble_eq_true (rfl : Nat.ble _ 1024 = true))) (by omega)) (by omega), by omega⟩) | (refine Nat.le_trans (Nat.mul_le_mul_left _ (Nat.le_of_ble_eq_true (rfl : Nat.ble _ 1024 = true))) ?_; omega) | (unfold inI64; omega) | (constructor <;> omega) | (simp only [inI64, List.length_cons, List.length_append, List.length_nil, List.length_set] at *; omega) | decide | (unfold inI64; decide)); conv => whnf)
      | omega | decide | assumption)
    refine LoopX.rule hT (C := []) (ι := Nat) (fun i => i ≤ o.length ∧ ∀ j, j < i → ordE m.length o j = 0) (fun i => mkSt [(0, .d (roas l)), (1, .d (.str start)), (2, .d (movs m)), (3, .d (ints o)), (37, .d (ints o)), (38, .d (.int .i64 o.length)), (39, .d (.int .i64 i))] []) (fun i => o.length - i) 0 ⟨by omega, by omega⟩ (by (refine Entails.mk' [] rfl rfl ?_ ?_ <;> repeat' (first | exact True.intro | exact SV.le_refl _ | exact Res.le_refl _ | exact SV.le_int (by omega) | exact SV.le_any _ | refine And.intro ?_ ?_)); done) ?_
    rintro i ⟨p1, p2⟩
    have e1 : (i : Int).toNat = i := Int.toNat_natCast i
    have hbad : ∀ e : Int, i < o.length → e ≠ 0 → ordE m.length o i = e → firstAt (ordE m.length o) o.length = e := fun e h h1 h2 => firstAt_eq h p2 h1 h2
    have h57 := z57 (o.take i) (by rw [List.length_take]; omega) (o.getD (i : Int).toNat 0)
    by_cases hi : i < o.length
    · conv => whnf
      repeat' (first
        | (refine CallX.exact (s119 _ _ _) rfl rfl ?_; rotate_right; conv => whnf)
        | (refine CallX.pure h57 ⟨SV.le_takeP (m := i) (by omega) (by omega) (fun j hj => by rw [show Int.toNat 0 + j = j by simp]), SV.le_refl _, trivial⟩ rfl ?_; conv => whnf)
        | (refine br_intro (fun hb => ?_) (fun hb => ?_) <;> (try simp only [decide_eq_true_eq, decide_eq_false_iff_not, Bool.not_eq_true', Bool.not_eq_false', Bool.and_eq_true, Bool.or_eq_true, beq_iff_eq, not_and, Int.not_le, Int.not_lt, Int.toNat_natCast, beq_eq_false_iff_ne, ne_eq, eq_self, not_true_eq_false, not_false_eq_true] at hb) <;> (conv => whnf))
        | omega
        | (refine And.intro ?_ ?_; ((try dsimp only); first | omega | (refine ⟨by omega, by omega, Int.le_trans (Int.mul_le_mul_of_nonneg_right (Int.ofNat_le.2 (Nat.le_of_ble_eq_true (rfl : Nat.ble _ 1024 = true))) (by omega)) (by omega), by omega⟩) | (refine Nat.le_trans (Nat.mul_le_mul_left _ (Nat.le_of_ble_eq_true (rfl : Nat.ble _ 1024 = true))) ?_; omega) | (unfold inI64; omega) | (constructor <;> omega) | (simp only [inI64, List.length_cons, List.length_append, List.length_nil, List.length_set] at *; omega) | decide | (unfold inI64; decide)); conv => whnf)
        | omega | decide | assumption)
      all_goals first
        | (refine ⟨i + 1, ⟨by omega, first_step p2 (by clear p2 hbad h57 h134 h107 h105 h117; simp only [e1] at *; unfold ordE; grind)⟩, by omega, (by (refine Entails.mk' [] rfl rfl ?_ ?_ <;> repeat' (first | exact True.intro | exact SV.le_refl _ | exact Res.le_refl _ | exact SV.le_int (by omega) | exact SV.le_any _ | refine And.intro ?_ ?_)); done)⟩)
        | (have hq : firstAt (ordE m.length o) o.length = 8 := hbad 8 hi (by decide) (by clear p2 hbad h57 h134 h107 h105 h117; simp only [e1] at *; unfold ordE; grind)
           rw [hq]
           refine .ret _ ?_
           conv => whnf
           exact ⟨[], ⟨rfl, rfl⟩, trivial⟩)
        | (have hq : firstAt (ordE m.length o) o.length = 6 := hbad 6 hi (by decide) (by clear p2 hbad h57 h134 h107 h105 h117; simp only [e1] at *; unfold ordE; grind)
           rw [hq]
           refine .ret _ ?_
           conv => whnf
           exact ⟨[], ⟨rfl, rfl⟩, trivial⟩)
    · obtain rfl : i = o.length := by omega
      have hz : firstAt (ordE m.length o) o.length = 0 := firstAt_zero p2
      have hook := ordE_ok p2
      have hq : (if firstAt (ordE m.length o) o.length ≠ 0 then firstAt (ordE m.length o) o.length else if (roundO l start m o).isSome = true then 0 else 8) = (if (roundO l start m o).isSome = true then (0 : Int) else 8) := by rw [if_neg (by omega)]
      rw [hq]
      conv => whnf
      repeat' (first
        | (refine CallX.of h117 [(3, 59)] rfl ⟨SV.le_refl _, trivial⟩ trivial rfl rfl ?_; rintro x rout ⟨rfl, rfl⟩; refine ⟨rfl, ?_⟩; conv => whnf)
        | (refine br_intro (fun hb => ?_) (fun hb => ?_) <;> (try simp only [decide_eq_true_eq, decide_eq_false_iff_not, Bool.not_eq_true', Bool.not_eq_false', Bool.and_eq_true, Bool.or_eq_true, beq_iff_eq, not_and, Int.not_le, Int.not_lt, Int.toNat_natCast, beq_eq_false_iff_ne, ne_eq, eq_self, not_true_eq_false, not_false_eq_true] at hb) <;> (conv => whnf))
        | omega
        | (refine And.intro ?_ ?_; ((try dsimp only); first | omega | (refine ⟨by omega, by omega, Int.le_trans (Int.mul_le_mul_of_nonneg_right (Int.ofNat_le.2 (Nat.le_of_ble_eq_true (rfl : Nat.ble _ 1024 = true))) (by omega)) (by omega), by omega⟩) | (refine Nat.le_trans (Nat.mul_le_mul_left _ (Nat.le_of_ble_eq_true (rfl : Nat.ble _ 1024 = true))) ?_; omega) | (unfold inI64; omega) | (constructor <;> omega) | (simp only [inI64, List.length_cons, List.length_append, List.length_nil, List.length_set] at *; omega) | decide | (unfold inI64; decide)); conv => whnf)
        | omega | decide | assumption)
      refine LoopX.rule hT (C := []) (ι := Nat × List UInt8 × Int) (fun (i, c, s) => i ≤ o.length ∧ partR l start m (o.take i) = some (c, s))
        (fun (i, c, s) => mkSt [(1, .d (.str start)), (2, .d (movs m)), (13, .mp 13), (14, .d (.str c)), (15, .d (.int .i64 s)), (61, .d (ints o)), (62, .d (.int .i64 o.length)), (63, .d (.int .i64 i))] [(13, netG l)]) (fun (i, _, _) => o.length - i) (0, start, 0) ⟨by simp, by simp [partR]⟩ (by (refine Entails.mk' [(13, 59)] rfl rfl ?_ ?_ <;> repeat' (first | exact True.intro | exact SV.le_refl _ | exact Res.le_refl _ | exact SV.le_int (by omega) | exact SV.le_any _ | refine And.intro ?_ ?_)); done) ?_
      rintro ⟨i, c, s⟩ ⟨r1, r2⟩
      have r1 : i ≤ o.length := r1
      have e1 : (i : Int).toNat = i := Int.toNat_natCast i
      have hsb := partR_bd (start := start) hl _ _ _ r2
      simp only [List.length_take] at hsb
      by_cases hi : i < o.length
      · have hk := hook (o.getD i 0) (getD_mem hi)
        have hk2 : 0 ≤ o.getD (i : Int).toNat 0 ∧ o.getD (i : Int).toNat 0 < (m.length : Int) := hk
        have hb1 := rideV_bd hl c (m.getD (o.getD (i : Int).toNat 0).toNat mv0).a
        have hb2 := roadC_bd hl (m.getD (o.getD (i : Int).toNat 0).toNat mv0).a (m.getD (o.getD (i : Int).toNat 0).toNat mv0).b
        have hmv : makeV l c (m.getD (o.getD (i : Int).toNat 0).toNat mv0) = rideV l c (m.getD (o.getD (i : Int).toNat 0).toNat mv0).a + ((roadO l (m.getD (o.getD (i : Int).toNat 0).toNat mv0).a (m.getD (o.getD (i : Int).toNat 0).toNat mv0).b).getD rd0).car := rfl
        have hmw := (makeO_eq l c (m.getD (o.getD (i : Int).toNat 0).toNat mv0)).2
        have h153 := z153 l hl c (m.getD (o.getD (i : Int).toNat 0).toNat mv0)
        have hn : partR l start m (o.take (i + 1)) = (makeO l c (m.getD (o.getD (i : Int).toNat 0).toNat mv0)).map fun n => ((m.getD (o.getD i 0).toNat mv0).b, s + n) := by
          rw [List.take_add_one, List.getElem?_eq_getElem hi]
          simp only [Option.toList]
          rw [partR_snoc, r2]
          have : o.getD (i : Int).toNat 0 = o[i] := by rw [e1, List.getD_eq_getElem?_getD, List.getElem?_eq_getElem hi]; rfl
          have h2 : o.getD i 0 = o[i] := this
          rw [this, h2]
          rfl
        by_cases hM : makeO l c (m.getD (o.getD (i : Int).toNat 0).toNat mv0) = none
        · rw [hM] at hn h153
          have hro : roundO l start m o = none := by
            have h2 := partR_app (t := o.drop (i + 1)) hn
            rw [List.take_append_drop] at h2
            unfold roundO; rw [h2]; rfl
          rw [hro]
          conv => whnf
          repeat' (first
            | (refine CallX.of h153 [(1000001, 13)] rfl ⟨SV.le_refl _, SV.le_refl _, SV.le_refl _, trivial⟩ ⟨Res.le_refl _, trivial⟩ rfl rfl ?_; rintro x rout ⟨rfl, rfl⟩; refine ⟨rfl, ?_⟩; conv => whnf)
            | (refine br_intro (fun hb => ?_) (fun hb => ?_) <;> (try simp only [decide_eq_true_eq, decide_eq_false_iff_not, Bool.not_eq_true', Bool.not_eq_false', Bool.and_eq_true, Bool.or_eq_true, beq_iff_eq, not_and, Int.not_le, Int.not_lt, Int.toNat_natCast, beq_eq_false_iff_ne, ne_eq, eq_self, not_true_eq_false, not_false_eq_true] at hb) <;> (conv => whnf))
            | omega
            | (refine And.intro ?_ ?_; ((try dsimp only); first | omega | (refine ⟨by omega, by omega, Int.le_trans (Int.mul_le_mul_of_nonneg_right (Int.ofNat_le.2 (Nat.le_of_ble_eq_true (rfl : Nat.ble _ 1024 = true))) (by omega)) (by omega), by omega⟩) | (refine Nat.le_trans (Nat.mul_le_mul_left _ (Nat.le_of_ble_eq_true (rfl : Nat.ble _ 1024 = true))) ?_; omega) | (unfold inI64; omega) | (constructor <;> omega) | (simp only [inI64, List.length_cons, List.length_append, List.length_nil, List.length_set] at *; omega) | decide | (unfold inI64; decide)); conv => whnf)
            | omega | decide | assumption)
          refine .ret _ ?_
          conv => whnf
          exact ⟨[], ⟨rfl, rfl⟩, trivial⟩
        · obtain ⟨v, hv⟩ := Option.ne_none_iff_exists'.1 hM
          have hvv := hmw v hv
          rw [hv] at hn h153
          conv => whnf
          repeat' (first
            | (refine CallX.of h153 [(1000001, 13)] rfl ⟨SV.le_refl _, SV.le_refl _, SV.le_refl _, trivial⟩ ⟨Res.le_refl _, trivial⟩ rfl rfl ?_; rintro x rout ⟨rfl, rfl⟩; refine ⟨rfl, ?_⟩; conv => whnf)
            | (refine br_intro (fun hb => ?_) (fun hb => ?_) <;> (try simp only [decide_eq_true_eq, decide_eq_false_iff_not, Bool.not_eq_true', Bool.not_eq_false', Bool.and_eq_true, Bool.or_eq_true, beq_iff_eq, not_and, Int.not_le, Int.not_lt, Int.toNat_natCast, beq_eq_false_iff_ne, ne_eq, eq_self, not_true_eq_false, not_false_eq_true] at hb) <;> (conv => whnf))
            | omega
            | (refine And.intro ?_ ?_; ((try dsimp only); first | omega | (refine ⟨by omega, by omega, Int.le_trans (Int.mul_le_mul_of_nonneg_right (Int.ofNat_le.2 (Nat.le_of_ble_eq_true (rfl : Nat.ble _ 1024 = true))) (by omega)) (by omega), by omega⟩) | (refine Nat.le_trans (Nat.mul_le_mul_left _ (Nat.le_of_ble_eq_true (rfl : Nat.ble _ 1024 = true))) ?_; omega) | (unfold inI64; omega) | (constructor <;> omega) | (simp only [inI64, List.length_cons, List.length_append, List.length_nil, List.length_set] at *; omega) | decide | (unfold inI64; decide)); conv => whnf)
            | omega | decide | assumption)
          exact ⟨(i + 1, (m.getD (o.getD i 0).toNat mv0).b, s + v), ⟨by omega, hn⟩, (show o.length - (i + 1) < o.length - i by omega), Entails.mk' [(13, 13)] rfl rfl ⟨SV.le_refl _, SV.le_refl _, SV.le_refl _, SV.le_refl _, SV.le_int (by omega), SV.le_refl _, SV.le_refl _, SV.le_refl _, trivial⟩ ⟨Res.le_refl _, trivial⟩⟩
      · obtain rfl : i = o.length := by omega
        rw [List.take_length] at r2
        have hro : roundO l start m o = (rideO l c start).map fun n => s + n := by unfold roundO; rw [r2]; rfl
        have h154 := z154 l c start
        have hrb := rideV_bd hl c start
        cases hR : rideO l c start with
        | none =>
          rw [hro, hR]
          rw [hR] at h154
          conv => whnf
          repeat' (first
            | (refine CallX.of h154 [(1000001, 13)] rfl ⟨SV.le_refl _, SV.le_refl _, SV.le_refl _, trivial⟩ ⟨Res.le_refl _, trivial⟩ rfl rfl ?_; rintro x rout ⟨rfl, rfl⟩; refine ⟨rfl, ?_⟩; conv => whnf)
            | (refine br_intro (fun hb => ?_) (fun hb => ?_) <;> (try simp only [decide_eq_true_eq, decide_eq_false_iff_not, Bool.not_eq_true', Bool.not_eq_false', Bool.and_eq_true, Bool.or_eq_true, beq_iff_eq, not_and, Int.not_le, Int.not_lt, Int.toNat_natCast, beq_eq_false_iff_ne, ne_eq, eq_self, not_true_eq_false, not_false_eq_true] at hb) <;> (conv => whnf))
            | omega
            | (refine And.intro ?_ ?_; ((try dsimp only); first | omega | (refine ⟨by omega, by omega, Int.le_trans (Int.mul_le_mul_of_nonneg_right (Int.ofNat_le.2 (Nat.le_of_ble_eq_true (rfl : Nat.ble _ 1024 = true))) (by omega)) (by omega), by omega⟩) | (refine Nat.le_trans (Nat.mul_le_mul_left _ (Nat.le_of_ble_eq_true (rfl : Nat.ble _ 1024 = true))) ?_; omega) | (unfold inI64; omega) | (constructor <;> omega) | (simp only [inI64, List.length_cons, List.length_append, List.length_nil, List.length_set] at *; omega) | decide | (unfold inI64; decide)); conv => whnf)
            | omega | decide | assumption)
          refine .ret _ ?_
          conv => whnf
          exact ⟨[], ⟨rfl, rfl⟩, trivial⟩
        | some n =>
          have hrv : rideV l c start = n := by unfold rideV; rw [hR]; rfl
          rw [hro, hR]
          simp only [Option.map_some, Option.isSome_some, if_true, Option.getD_some]
          rw [hR, hrv] at h154
          rw [hrv] at hrb
          conv => whnf
          repeat' (first
            | (refine CallX.of h154 [(1000001, 13)] rfl ⟨SV.le_refl _, SV.le_refl _, SV.le_refl _, trivial⟩ ⟨Res.le_refl _, trivial⟩ rfl rfl ?_; rintro x rout ⟨rfl, rfl⟩; refine ⟨rfl, ?_⟩; conv => whnf)
            | (refine br_intro (fun hb => ?_) (fun hb => ?_) <;> (try simp only [decide_eq_true_eq, decide_eq_false_iff_not, Bool.not_eq_true', Bool.not_eq_false', Bool.and_eq_true, Bool.or_eq_true, beq_iff_eq, not_and, Int.not_le, Int.not_lt, Int.toNat_natCast, beq_eq_false_iff_ne, ne_eq, eq_self, not_true_eq_false, not_false_eq_true] at hb) <;> (conv => whnf))
            | omega
            | (refine And.intro ?_ ?_; ((try dsimp only); first | omega | (refine ⟨by omega, by omega, Int.le_trans (Int.mul_le_mul_of_nonneg_right (Int.ofNat_le.2 (Nat.le_of_ble_eq_true (rfl : Nat.ble _ 1024 = true))) (by omega)) (by omega), by omega⟩) | (refine Nat.le_trans (Nat.mul_le_mul_left _ (Nat.le_of_ble_eq_true (rfl : Nat.ble _ 1024 = true))) ?_; omega) | (unfold inI64; omega) | (constructor <;> omega) | (simp only [inI64, List.length_cons, List.length_append, List.length_nil, List.length_set] at *; omega) | decide | (unfold inI64; decide)); conv => whnf)
            | omega | decide | assumption)
          refine .ret _ ?_
          conv => whnf
          exact ⟨[], ⟨rfl, rfl⟩, trivial⟩
  · have hrc : rcE l start m o = firstE [drvE l start m, if o.length = m.length then 0 else 3] ∧ rcE l start m o ≠ 0 := by
      unfold rcE
      simp only [firstE]
      grind
    rw [hrc.1]
    have hne := hrc.2
    rw [hrc.1] at hne
    generalize firstE [drvE l start m, if o.length = m.length then 0 else 3] = e at h105 hne
    rw [if_neg hne]
    refine spec_of hT (C := []) Tryz.func55 rfl Tryz.call55 rfl rfl rfl ?_
    conv => whnf
    repeat' (first
      | (refine CallX.exact (h134) rfl rfl ?_; rotate_right; conv => whnf)
      | (refine CallX.exact (h107) rfl rfl ?_; rotate_right; conv => whnf)
      | (refine CallX.pure h105 ⟨SV.le_lit (by rfl) (by rfl), trivial⟩ rfl ?_; conv => whnf)
      | (refine br_intro (fun hb => ?_) (fun hb => ?_) <;> (try simp only [decide_eq_true_eq, decide_eq_false_iff_not, Bool.not_eq_true', Bool.not_eq_false', Bool.and_eq_true, Bool.or_eq_true, beq_iff_eq, not_and, Int.not_le, Int.not_lt, Int.toNat_natCast, beq_eq_false_iff_ne, ne_eq, eq_self, not_true_eq_false, not_false_eq_true] at hb) <;> (conv => whnf))
      | omega
      | (refine And.intro ?_ ?_; ((try dsimp only); first | omega | (refine ⟨by omega, by omega, Int.le_trans (Int.mul_le_mul_of_nonneg_right (Int.ofNat_le.2 (Nat.le_of_ble_eq_true (rfl : Nat.ble _ 1024 = true))) (by omega)) (by omega), by omega⟩) | (refine Nat.le_trans (Nat.mul_le_mul_left _ (Nat.le_of_ble_eq_true (rfl : Nat.ble _ 1024 = true))) ?_; omega) | (unfold inI64; omega) | (constructor <;> omega) | (simp only [inI64, List.length_cons, List.length_append, List.length_nil, List.length_set] at *; omega) | decide | (unfold inI64; decide)); conv => whnf)
      | omega | decide | assumption)
    refine .ret _ ?_
    conv => whnf
    refine ⟨[], ⟨congrArg SV.tup ?_, rfl⟩, trivial⟩
    repeat' (refine cons_eq ?_ ?_)
    all_goals (conv => lhs; whnf)
    all_goals try (with_reducible rfl)
    all_goals rfl
end Go.Proofs.YtnkdlkgannnfhaaGreatDoor
set_option maxRecDepth 20000
namespace Go.Proofs.YtnkdlkgannnfhaaGreatDoor
open Go Go.Eng
theorem roundO_nn {l : List Roa} (h : rdsE l = 0) {start : List UInt8} {m : List Mov} {o : List Int} {v : Int} (hv : roundO l start m o = some v) : 0 ≤ v := by
  unfold roundO at hv
  cases q : partR l start m o with
  | none => rw [q] at hv; cases hv
  | some p =>
    rw [q, Option.bind_some] at hv
    cases q2 : rideO l p.1 start with
    | none => rw [q2] at hv; cases hv
    | some n =>
      rw [q2] at hv
      cases hv
      have h1 := partR_bd (start := start) h _ _ _ q
      have h2 := rideO_bd h q2
      simp only at h1
      show 0 ≤ p.2 + n
      omega
theorem rs_mono {l : List Roa} (h : rdsE l = 0) {start : List UInt8} {m : List Mov} : ∀ (d : Nat) (o : List Int) (st : RSt), 0 ≤ st.2 → 0 ≤ (rs l start m d o st).2 ∧ (rs l start m d o st).2 ≤ st.2 := by
  intro d
  induction d with
  | zero =>
    intro o st h0
    rw [rs]
    cases q : roundO l start m o with
    | none => exact ⟨h0, Int.le_refl _⟩
    | some n =>
      have := roundO_nn h q
      dsimp only
      split
      · exact ⟨h0, Int.le_refl _⟩
      · show 0 ≤ n ∧ n ≤ st.2
        omega
  | succ d ih =>
    intro o st h0
    rw [rs]
    refine foldl_inv (q := fun s : RSt => 0 ≤ s.2 ∧ s.2 ≤ st.2) (fun s k _ hs => ?_) ⟨h0, Int.le_refl _⟩
    split
    · exact hs
    · have := ih (o ++ [(k : Int)]) s hs.1
      omega
theorem fold_hit {f : RSt → Nat → RSt} {v : Int} (hm : ∀ s k, 0 ≤ s.2 → 0 ≤ (f s k).2 ∧ (f s k).2 ≤ s.2) {k : Nat} (hk : ∀ s, 0 ≤ (f s k).2 ∧ (f s k).2 ≤ v) : ∀ (l : List Nat) (s : RSt), k ∈ l → 0 ≤ (l.foldl f s).2 ∧ (l.foldl f s).2 ≤ v := by
  have stay : ∀ (l : List Nat) (s : RSt), 0 ≤ s.2 → s.2 ≤ v → 0 ≤ (l.foldl f s).2 ∧ (l.foldl f s).2 ≤ v := by
    intro l
    induction l with
    | nil => intro s h1 h2; exact ⟨h1, h2⟩
    | cons x l ih =>
      intro s h1 h2
      have := hm s x h1
      exact ih _ this.1 (by omega)
  intro l
  induction l with
  | nil => intro s h; cases h
  | cons x l ih =>
    intro s h
    rcases List.mem_cons.1 h with q | q
    · subst q
      have := hk s
      exact stay l _ this.1 this.2
    · exact ih _ q
theorem rs_best {l : List Roa} (h : rdsE l = 0) {start : List UInt8} {m : List Mov} : ∀ (d : Nat) (o t : List Int) (st : RSt) (v : Int), t.length = d → (o ++ t).Nodup → ordOk m.length t → roundO l start m (o ++ t) = some v →
    0 ≤ (rs l start m d o st).2 ∧ (rs l start m d o st).2 ≤ v := by
  intro d
  induction d with
  | zero =>
    intro o t st v ht _ _ hv
    obtain rfl : t = [] := List.eq_nil_of_length_eq_zero ht
    rw [List.append_nil] at hv
    have := roundO_nn h hv
    rw [rs, hv]
    dsimp only
    split
    · assumption
    · exact ⟨this, Int.le_refl _⟩
  | succ d ih =>
    intro o t st v ht hn hk hv
    cases t with
    | nil => cases ht
    | cons x t =>
      have hx := hk x List.mem_cons_self
      obtain ⟨k, rfl⟩ : ∃ k : Nat, x = (k : Int) := ⟨x.toNat, by omega⟩
      have e : o ++ (k : Int) :: t = (o ++ [(k : Int)]) ++ t := by simp
      have hc : o.contains (k : Int) = false := by
        rw [← Bool.not_eq_true, List.contains_iff_mem]
        intro q
        exact (List.nodup_append.1 hn).2.2 _ q _ List.mem_cons_self rfl
      rw [rs]
      refine fold_hit (k := k) (fun s j hs => ?_) (fun s => ?_) _ _ (List.mem_range.2 (by omega))
      · split
        · exact ⟨hs, Int.le_refl _⟩
        · exact rs_mono h _ _ _ hs
      · rw [hc]
        rw [e] at hn hv
        exact ih _ t s v (by simpa using ht) hn (fun y hy => hk y (List.mem_cons_of_mem _ hy)) hv
theorem rs_none {l : List Roa} (h : rdsE l = 0) {start : List UInt8} {m : List Mov} (hz : (rs l start m m.length [] ([], -1)).2 < 0) {o : List Int} (hl : o.length = m.length) (hn : o.Nodup) (hk : ordOk m.length o) : roundO l start m o = none := by
  cases q : roundO l start m o with
  | none => rfl
  | some v =>
    have := rs_best h m.length [] o ([], -1) v hl hn hk q
    omega
theorem rs_le {l : List Roa} (h : rdsE l = 0) {start : List UInt8} {m : List Mov} {o : List Int} {v : Int} (hl : o.length = m.length) (hn : o.Nodup) (hk : ordOk m.length o) (hv : roundO l start m o = some v) : (rs l start m m.length [] ([], -1)).2 ≤ v :=
  (rs_best h m.length [] o ([], -1) v hl hn hk hv).2
theorem nrS_nodup {l : List Roa} {start : List UInt8} {m : List Mov} : ∀ {j : Nat} {p : List UInt8 × List Int}, nrS l start m j = some p → p.2.Nodup := by
  intro j
  induction j with
  | zero => intro p h; cases h; exact List.nodup_nil
  | succ j ih =>
    intro p h
    rw [nrS] at h
    obtain ⟨q, hq, h⟩ := Option.bind_eq_some_iff.1 h
    have hi := ih hq
    split at h
    · cases h
    · rename_i h0
      cases h
      rcases nxN_bd l m q.1 q.2 m.length with b | b
      · exact absurd b h0
      · have hc : ¬ (nxN l m q.1 q.2 m.length).1 ∈ q.2 := by
          rw [← List.contains_iff_mem, b.2.2.1]; simp
        rw [List.nodup_append]
        refine ⟨hi, by simp, fun a ha c hc' e => ?_⟩
        rw [List.mem_singleton] at hc'
        rw [e, hc'] at ha
        exact hc ha
theorem ordE_of {n : Nat} {o : List Int} (hok : ordOk n o) (hnd : o.Nodup) : ∀ j, j < o.length → ordE n o j = 0 := by
  intro j hj
  have e : o.getD j 0 = o[j] := by rw [List.getD_eq_getElem?_getD, List.getElem?_eq_getElem hj]; rfl
  have hb := hok o[j] (List.getElem_mem hj)
  unfold ordE
  rw [e, if_neg (by omega), if_neg]
  rw [List.contains_iff_mem]
  intro q
  have h2 := hnd
  rw [← List.take_append_drop j o, List.nodup_append] at h2
  refine h2.2.2 _ q o[j] ?_ rfl
  rw [List.drop_eq_getElem_cons hj]
  exact List.mem_cons_self
theorem ordE_nodup {n : Nat} {o : List Int} (h : ∀ j, j < o.length → ordE n o j = 0) : o.Nodup := by
  unfold List.Nodup
  rw [List.pairwise_iff_getElem]
  intro i j hi hj hij e
  have hj2 := h j hj
  unfold ordE at hj2
  rw [show o.getD j 0 = o[j] by rw [List.getD_eq_getElem?_getD, List.getElem?_eq_getElem hj]; rfl] at hj2
  split at hj2
  · cases hj2
  · split at hj2
    · cases hj2
    · rename_i h1 h2
      apply h2
      rw [List.contains_iff_mem, ← e]
      have : (o.take j)[i]'(by rw [List.length_take]; omega) = o[i] := by rw [List.getElem_take]
      rw [← this]
      exact List.getElem_mem _
/-- What RoundCost says of an order that is one. -/
theorem rc_zero {l : List Roa} {start : List UInt8} {m : List Mov} {o : List Int} (h : rcE l start m o = 0) : rdsE l = 0 ∧ o.length = m.length ∧ ordOk m.length o ∧ o.Nodup ∧ (roundO l start m o).isSome = true := by
  unfold rcE at h
  split at h
  · rename_i q; exact absurd h q
  · rename_i hd
    have hd : drvE l start m = 0 := by omega
    split at h
    · cases h
    · rename_i hl
      split at h
      · rename_i q; exact absurd h q
      · rename_i ho
        have hall := firstAt_all (f := ordE m.length o) (n := o.length) (by omega)
        split at h
        · exact ⟨(drvE_zero hd).1, by omega, ordE_ok hall, ordE_nodup hall, by assumption⟩
        · cases h
theorem rc_of {l : List Roa} {start : List UInt8} {m : List Mov} {o : List Int} {v : Int} (hd : drvE l start m = 0) (hl : o.length = m.length) (hok : ordOk m.length o) (hnd : o.Nodup) (hv : roundO l start m o = some v) : rcE l start m o = 0 := by
  have hz : firstAt (ordE m.length o) o.length = 0 := firstAt_zero (ordE_of hok hnd)
  unfold rcE
  rw [if_neg (by omega), if_neg (by omega), if_neg (by omega), hv]
  rfl
end Go.Proofs.YtnkdlkgannnfhaaGreatDoor
set_option maxRecDepth 20000
namespace Go.Proofs.YtnkdlkgannnfhaaGreatDoor
open Go Go.Eng
abbrev trC (l : List Roa) (start : List UInt8) (m : List Mov) (nw : Nat) (st : RSt) : Res := .cells 203 [.mp 1000004, .d (.str start), .d (movs m), .buf 1000001, .buf nw, .d (ints st.1), .d (.int .i64 st.2)]
/-- The tour that is looked for: where its order lies, the order, the best one. -/
def trR (l : List Roa) (start : List UInt8) (m : List Mov) (nw : Nat) (o : List Int) (st : RSt) : List (Nat × Res) :=
  [(1000000, trC l start m nw st), (nw, inB o), (1000001, seqB 4 1 bF false (usedO m.length o)), (1000004, netG l)]
theorem usedO_back {n k : Nat} {o : List Int} (hk : k < n) (h : o.contains (k : Int) = false) : (usedO n (o ++ [(k : Int)])).set k false = usedO n o := by
  refine eq_of_getD false (by rw [List.length_set, usedO_len, usedO_len]) (fun j hj => ?_)
  rw [List.length_set, usedO_len] at hj
  rw [usedO_get hj, List.getD_eq_getElem?_getD, List.getElem?_set]
  by_cases e : k = j
  · subst e
    rw [if_pos rfl, if_pos (by rw [usedO_len]; omega), h]; rfl
  · rw [if_neg e, ← List.getD_eq_getElem?_getD, usedO_get hj, Bool.eq_iff_iff, List.contains_iff_mem, List.contains_iff_mem, List.mem_append, List.mem_singleton]
    constructor
    · rintro (q | q)
      · exact q
      · omega
    · exact .inl
def stepS (l : List Roa) (start : List UInt8) (m : List Mov) (d : Nat) (o : List Int) (st : RSt) (k : Nat) : RSt := if o.contains (k : Int) then st else rs l start m d (o ++ [(k : Int)]) st
theorem rs_succ (l : List Roa) (start : List UInt8) (m : List Mov) (d : Nat) (o : List Int) (st : RSt) : rs l start m (d + 1) o st = (List.range m.length).foldl (stepS l start m d o) st := rfl
theorem foldS_ok {l : List Roa} {start : List UInt8} {m : List Mov} {d : Nat} {o : List Int} {st : RSt} (k : Nat) : (List.range (k + 1)).foldl (stepS l start m d o) st = stepS l start m d o ((List.range k).foldl (stepS l start m d o) st) k := foldl_range_succ _ _ _
theorem foldS_len {l : List Roa} {start : List UInt8} {m : List Mov} {d : Nat} {o : List Int} {st : RSt} {n : Nat} (h : o.length + (d + 1) ≤ n) (hs : st.1.length ≤ n) (ks : List Nat) : (ks.foldl (stepS l start m d o) st).1.length ≤ n := by
  refine foldl_inv (q := fun s : RSt => s.1.length ≤ n) (fun s k _ hs => ?_) hs
  unfold stepS
  split
  · exact hs
  · exact rs_len _ _ _ n (by simp; omega) hs
def rsBd (st : RSt) : Prop := -1 ≤ st.2 ∧ st.2 ≤ 2^40
theorem rs_bd {l : List Roa} (h : rdsE l = 0) {start : List UInt8} {m : List Mov} : ∀ (d : Nat) (o : List Int) (st : RSt), o.length + d ≤ 1000 → rsBd st → rsBd (rs l start m d o st) := by
  intro d
  induction d with
  | zero =>
    intro o st hl hs
    rw [rs]
    cases q : roundO l start m o with
    | none => exact hs
    | some n =>
      have h1 := roundO_nn h q
      have h2 : n ≤ 2^40 := by
        unfold roundO at q
        cases q3 : partR l start m o with
        | none => rw [q3] at q; cases q
        | some p =>
          rw [q3, Option.bind_some] at q
          cases q2 : rideO l p.1 start with
          | none => rw [q2] at q; cases q
          | some k =>
            rw [q2] at q
            cases q
            have h1 := partR_bd (start := start) h _ _ _ q3
            have h2 := rideO_bd h q2
            simp only at h1
            show p.2 + k ≤ 2^40
            omega
      dsimp only
      split
      · exact hs
      · exact ⟨by show -1 ≤ n; omega, h2⟩
  | succ d ih =>
    intro o st hl hs
    rw [rs_succ]
    refine foldl_inv (q := rsBd) (fun s k _ hs => ?_) hs
    unfold stepS
    split
    · exact hs
    · exact ih _ _ (by simp; omega) hs
theorem foldS_bd {l : List Roa} (h : rdsE l = 0) {start : List UInt8} {m : List Mov} {d : Nat} {o : List Int} {st : RSt} (hl : o.length + (d + 1) ≤ 1000) (hs : rsBd st) (ks : List Nat) : rsBd (ks.foldl (stepS l start m d o) st) := by
  refine foldl_inv (q := rsBd) (fun s k _ hs => ?_) hs
  unfold stepS
  split
  · exact hs
  · exact rs_bd h _ _ _ (by simp; omega) hs
-- go1
set_option maxHeartbeats 16000000 in
theorem z135 (l : List Roa) (hl : rdsE l = 0) (start : List UInt8) (m : List Mov) (hm : m.length ≤ 100) :
    ∀ (d : Nat) (o : List Int) (c : List UInt8) (s : Int) (st : RSt), o.length + d = m.length → partR l start m o = some (c, s) → st.1.length ≤ 100 → rsBd st →
    FSpec Tryz.prog 135 [.ptr 1000000 0, .d (.str c), .d (.int .i64 s)] (trR l start m 1000002 o st) (fun y r' => y = .tup [] ∧ ∃ nm, (nm = 1000002 ∨ nm = 60) ∧ r' = trR l start m nm o (rs l start m d o st)) := by
  intro d
  induction d with
  | zero =>
    intro o c s st hd hp hst hbd
    have hsb := partR_bd (start := start) hl _ _ _ hp
    simp only at hsb
    have hol : o.length = m.length := by omega
    have h154 := z154 l c start
    have hrb := rideV_bd hl c start
    have h139 := z139 o (by omega)
    unfold rsBd at hbd
    have hro : roundO l start m o = (rideO l c start).map fun n => s + n := by unfold roundO; rw [hp]; rfl
    have hrs : rs l start m 0 o st = match (rideO l c start).map (fun n => s + n) with
      | some n => if 0 ≤ st.2 ∧ st.2 ≤ n then st else (o, n)
      | none => st := by rw [← hro]; rfl
    have hpr := rs_prune hl 0 o (c, s) st hp
    rw [hrs] at hpr ⊢
    have hrv : ∀ n, rideO l c start = some n → rideV l c start = n := fun n h => by unfold rideV; rw [h]; rfl
    cases hR : rideO l c start with
    | none =>
      rw [hR] at h154
      refine spec_of hT (C := []) Tryz.func135 rfl Tryz.call135 rfl rfl rfl ?_
      conv => whnf
      repeat' (first
        | (refine CallX.of h154 [(1000001, 1000004)] rfl ⟨SV.le_refl _, SV.le_refl _, SV.le_refl _, trivial⟩ ⟨Res.le_refl _, trivial⟩ rfl rfl ?_; rintro x rout ⟨rfl, rfl⟩; refine ⟨rfl, ?_⟩; conv => whnf)
        | (refine br_intro (fun hb => ?_) (fun hb => ?_) <;> (try simp only [decide_eq_true_eq, decide_eq_false_iff_not, Bool.not_eq_true', Bool.not_eq_false', Bool.and_eq_true, Bool.or_eq_true, beq_iff_eq, not_and, Int.not_le, Int.not_lt, Int.toNat_natCast, beq_eq_false_iff_ne, ne_eq, eq_self, not_true_eq_false, not_false_eq_true] at hb) <;> (conv => whnf))
        | (refine RegX.rule (id := 1) hT rfl [] [(0, []), (1, []), (2, []), (3, []), (4, []), (5, [0, 1, 2, 3, 4]), (6, [0, 1, 2, 3, 4]), (7, [0, 1, 2, 3, 4]), (8, [0, 1, 2, 3, 4]), (9, [0, 1, 2, 3, 4]), (10, [])] (by decide +kernel) ?_; conv => whnf)
        | (refine RegX.rule (id := 2) hT rfl [] [(0, []), (1, []), (2, []), (3, []), (4, [0, 1, 2, 3]), (5, [0, 1, 2, 3, 4]), (6, [0, 1, 2, 3, 4]), (7, [0, 1, 2, 3, 4]), (8, [0, 1, 2, 3, 4]), (9, []), (10, []), (11, []), (12, [11]), (13, [12]), (14, [])] (by decide +kernel) ?_; conv => whnf)
        | (refine RegX.rule (id := 9) hT rfl [] [(0, []), (1, []), (2, []), (3, []), (4, [0, 1, 2, 3]), (5, [0, 1, 2, 3, 4]), (6, []), (7, []), (8, []), (9, [8]), (10, [9]), (11, [])] (by decide +kernel) ?_; conv => whnf)
        | (refine RegX.rule (id := 11) hT rfl [] [(0, []), (1, []), (2, []), (3, []), (4, [0, 1, 2, 3]), (5, [0, 1, 2, 3, 4]), (6, [0, 1, 2, 3, 4, 5]), (7, [0, 1, 2, 3, 4, 5]), (8, [0, 1, 2, 3, 4, 5]), (9, [0, 1, 2, 3, 4, 5]), (10, [0, 1, 2, 3, 4, 5, 6, 7, 8, 9]), (11, [0, 1, 2, 3, 4, 5, 6, 7, 8, 9]), (12, [0, 1, 2, 3, 4, 5]), (13, [5]), (14, [5]), (15, []), (16, []), (17, [])] (by decide +kernel) ?_; conv => whnf)
        | (refine RegX.rule (id := 13) hT rfl [] [(0, []), (1, []), (2, []), (3, []), (4, [0, 1, 2, 3]), (5, [0, 1, 2, 3, 4]), (6, [0, 1, 2, 3, 4, 5]), (7, [0, 1, 2, 3, 4, 5]), (8, [0, 1, 2, 3, 4, 5]), (9, [0, 1, 2, 3, 4, 5]), (10, [0, 1, 2, 3, 4, 5, 6, 7, 8, 9]), (11, [0, 1, 2, 3, 4, 5, 6, 7, 8, 9]), (12, [0, 1, 2, 3, 4, 5, 6, 7, 8, 9]), (13, [0, 1, 2, 3, 4, 5, 6, 7, 8, 9]), (14, [0, 1, 2, 3, 4, 5, 6, 7, 8, 9]), (15, [0, 1, 2, 3, 4, 5, 6, 7, 8, 9]), (16, [0, 1, 2, 3, 4, 5]), (17, [5, 14, 15, 16]), (18, [5, 14, 15, 16]), (19, []), (20, []), (21, [])] (by decide +kernel) ?_; conv => whnf)
        | omega
        | (refine And.intro ?_ ?_; ((try dsimp only); first | omega | (refine ⟨by omega, by omega, Int.le_trans (Int.mul_le_mul_of_nonneg_right (Int.ofNat_le.2 (Nat.le_of_ble_eq_true (rfl : Nat.ble _ 1024 = true))) (by omega)) (by omega), by omega⟩) | (refine Nat.le_trans (Nat.mul_le_mul_left _ (Nat.le_of_ble_eq_true (rfl : Nat.ble _ 1024 = true))) ?_; omega) | (unfold inI64; omega) | (constructor <;> omega) | (simp only [inI64, List.length_cons, List.length_append, List.length_nil, List.length_set] at *; omega) | decide | (unfold inI64; decide)); conv => whnf)
        | omega | decide | assumption)
      all_goals first
        | (exfalso; omega)
        | (refine .ret _ ?_
           conv => whnf
           exact ⟨_, ⟨rfl, 1000002, .inl rfl, rfl⟩, Res.le_refl _, Res.le_refl _, Res.le_refl _, Res.le_refl _, trivial⟩)
    | some n =>
      rw [hR, hrv n hR] at h154
      rw [hrv n hR] at hrb
      rw [hR] at hpr
      simp only [Option.map_some] at hpr ⊢
      refine spec_of hT (C := []) Tryz.func135 rfl Tryz.call135 rfl rfl rfl ?_
      conv => whnf
      repeat' (first
        | (refine CallX.of h154 [(1000001, 1000004)] rfl ⟨SV.le_refl _, SV.le_refl _, SV.le_refl _, trivial⟩ ⟨Res.le_refl _, trivial⟩ rfl rfl ?_; rintro x rout ⟨rfl, rfl⟩; refine ⟨rfl, ?_⟩; conv => whnf)
        | (refine CallX.of h139 [(1000001, 1000002)] rfl ⟨SV.le_refl _, trivial⟩ ⟨Res.le_refl _, trivial⟩ rfl rfl ?_; rintro x rout ⟨rfl, rfl⟩; refine ⟨rfl, ?_⟩; conv => whnf)
        | (refine br_intro (fun hb => ?_) (fun hb => ?_) <;> (try simp only [decide_eq_true_eq, decide_eq_false_iff_not, Bool.not_eq_true', Bool.not_eq_false', Bool.and_eq_true, Bool.or_eq_true, beq_iff_eq, not_and, Int.not_le, Int.not_lt, Int.toNat_natCast, beq_eq_false_iff_ne, ne_eq, eq_self, not_true_eq_false, not_false_eq_true] at hb) <;> (conv => whnf))
        | (refine RegX.rule (id := 1) hT rfl [] [(0, []), (1, []), (2, []), (3, []), (4, []), (5, [0, 1, 2, 3, 4]), (6, [0, 1, 2, 3, 4]), (7, [0, 1, 2, 3, 4]), (8, [0, 1, 2, 3, 4]), (9, [0, 1, 2, 3, 4]), (10, [])] (by decide +kernel) ?_; conv => whnf)
        | (refine RegX.rule (id := 2) hT rfl [] [(0, []), (1, []), (2, []), (3, []), (4, [0, 1, 2, 3]), (5, [0, 1, 2, 3, 4]), (6, [0, 1, 2, 3, 4]), (7, [0, 1, 2, 3, 4]), (8, [0, 1, 2, 3, 4]), (9, []), (10, []), (11, []), (12, [11]), (13, [12]), (14, [])] (by decide +kernel) ?_; conv => whnf)
        | (refine RegX.rule (id := 9) hT rfl [] [(0, []), (1, []), (2, []), (3, []), (4, [0, 1, 2, 3]), (5, [0, 1, 2, 3, 4]), (6, []), (7, []), (8, []), (9, [8]), (10, [9]), (11, [])] (by decide +kernel) ?_; conv => whnf)
        | (refine RegX.rule (id := 11) hT rfl [] [(0, []), (1, []), (2, []), (3, []), (4, [0, 1, 2, 3]), (5, [0, 1, 2, 3, 4]), (6, [0, 1, 2, 3, 4, 5]), (7, [0, 1, 2, 3, 4, 5]), (8, [0, 1, 2, 3, 4, 5]), (9, [0, 1, 2, 3, 4, 5]), (10, [0, 1, 2, 3, 4, 5, 6, 7, 8, 9]), (11, [0, 1, 2, 3, 4, 5, 6, 7, 8, 9]), (12, [0, 1, 2, 3, 4, 5]), (13, [5]), (14, [5]), (15, []), (16, []), (17, [])] (by decide +kernel) ?_; conv => whnf)
        | (refine RegX.rule (id := 13) hT rfl [] [(0, []), (1, []), (2, []), (3, []), (4, [0, 1, 2, 3]), (5, [0, 1, 2, 3, 4]), (6, [0, 1, 2, 3, 4, 5]), (7, [0, 1, 2, 3, 4, 5]), (8, [0, 1, 2, 3, 4, 5]), (9, [0, 1, 2, 3, 4, 5]), (10, [0, 1, 2, 3, 4, 5, 6, 7, 8, 9]), (11, [0, 1, 2, 3, 4, 5, 6, 7, 8, 9]), (12, [0, 1, 2, 3, 4, 5, 6, 7, 8, 9]), (13, [0, 1, 2, 3, 4, 5, 6, 7, 8, 9]), (14, [0, 1, 2, 3, 4, 5, 6, 7, 8, 9]), (15, [0, 1, 2, 3, 4, 5, 6, 7, 8, 9]), (16, [0, 1, 2, 3, 4, 5]), (17, [5, 14, 15, 16]), (18, [5, 14, 15, 16]), (19, []), (20, []), (21, [])] (by decide +kernel) ?_; conv => whnf)
        | omega
        | (refine And.intro ?_ ?_; ((try dsimp only); first | omega | (refine ⟨by omega, by omega, Int.le_trans (Int.mul_le_mul_of_nonneg_right (Int.ofNat_le.2 (Nat.le_of_ble_eq_true (rfl : Nat.ble _ 1024 = true))) (by omega)) (by omega), by omega⟩) | (refine Nat.le_trans (Nat.mul_le_mul_left _ (Nat.le_of_ble_eq_true (rfl : Nat.ble _ 1024 = true))) ?_; omega) | (unfold inI64; omega) | (constructor <;> omega) | (simp only [inI64, List.length_cons, List.length_append, List.length_nil, List.length_set] at *; omega) | decide | (unfold inI64; decide)); conv => whnf)
        | omega | decide | assumption)
      all_goals first
        | (exfalso; omega)
        | (rw [hpr (by omega) (by omega)]
           refine .ret _ ?_
           conv => whnf
           exact ⟨_, ⟨rfl, 1000002, .inl rfl, rfl⟩, Res.le_refl _, Res.le_refl _, Res.le_refl _, Res.le_refl _, trivial⟩)
        | (rw [if_pos (by omega)]
           refine .ret _ ?_
           conv => whnf
           exact ⟨_, ⟨rfl, 1000002, .inl rfl, rfl⟩, Res.le_refl _, Res.le_refl _, Res.le_refl _, Res.le_refl _, trivial⟩)
        | (rw [if_neg (by omega)]
           refine .ret _ ?_
           conv => whnf
           exact ⟨_, ⟨rfl, 1000002, .inl rfl, rfl⟩, Res.le_refl _, Res.le_refl _, Res.le_refl _, Res.le_refl _, trivial⟩)
  | succ d ih =>
    intro o c s st hd hp hst hbd
    have hsb := partR_bd (start := start) hl _ _ _ hp
    simp only at hsb
    have hul := usedO_len m.length o
    by_cases hpr : 0 ≤ st.2 ∧ st.2 ≤ s
    · rw [rs_prune hl (d + 1) o (c, s) st hp hpr.1 hpr.2]
      refine spec_of hT (C := []) Tryz.func135 rfl Tryz.call135 rfl rfl rfl ?_
      conv => whnf
      repeat' (first
        | (refine br_intro (fun hb => ?_) (fun hb => ?_) <;> (try simp only [decide_eq_true_eq, decide_eq_false_iff_not, Bool.not_eq_true', Bool.not_eq_false', Bool.and_eq_true, Bool.or_eq_true, beq_iff_eq, not_and, Int.not_le, Int.not_lt, Int.toNat_natCast, beq_eq_false_iff_ne, ne_eq, eq_self, not_true_eq_false, not_false_eq_true] at hb) <;> (conv => whnf))
        | (refine RegX.rule (id := 1) hT rfl [] [(0, []), (1, []), (2, []), (3, []), (4, []), (5, [0, 1, 2, 3, 4]), (6, [0, 1, 2, 3, 4]), (7, [0, 1, 2, 3, 4]), (8, [0, 1, 2, 3, 4]), (9, [0, 1, 2, 3, 4]), (10, [])] (by decide +kernel) ?_; conv => whnf)
        | (refine RegX.rule (id := 2) hT rfl [] [(0, []), (1, []), (2, []), (3, []), (4, [0, 1, 2, 3]), (5, [0, 1, 2, 3, 4]), (6, [0, 1, 2, 3, 4]), (7, [0, 1, 2, 3, 4]), (8, [0, 1, 2, 3, 4]), (9, []), (10, []), (11, []), (12, [11]), (13, [12]), (14, [])] (by decide +kernel) ?_; conv => whnf)
        | (refine RegX.rule (id := 9) hT rfl [] [(0, []), (1, []), (2, []), (3, []), (4, [0, 1, 2, 3]), (5, [0, 1, 2, 3, 4]), (6, []), (7, []), (8, []), (9, [8]), (10, [9]), (11, [])] (by decide +kernel) ?_; conv => whnf)
        | (refine RegX.rule (id := 11) hT rfl [] [(0, []), (1, []), (2, []), (3, []), (4, [0, 1, 2, 3]), (5, [0, 1, 2, 3, 4]), (6, [0, 1, 2, 3, 4, 5]), (7, [0, 1, 2, 3, 4, 5]), (8, [0, 1, 2, 3, 4, 5]), (9, [0, 1, 2, 3, 4, 5]), (10, [0, 1, 2, 3, 4, 5, 6, 7, 8, 9]), (11, [0, 1, 2, 3, 4, 5, 6, 7, 8, 9]), (12, [0, 1, 2, 3, 4, 5]), (13, [5]), (14, [5]), (15, []), (16, []), (17, [])] (by decide +kernel) ?_; conv => whnf)
        | (refine RegX.rule (id := 13) hT rfl [] [(0, []), (1, []), (2, []), (3, []), (4, [0, 1, 2, 3]), (5, [0, 1, 2, 3, 4]), (6, [0, 1, 2, 3, 4, 5]), (7, [0, 1, 2, 3, 4, 5]), (8, [0, 1, 2, 3, 4, 5]), (9, [0, 1, 2, 3, 4, 5]), (10, [0, 1, 2, 3, 4, 5, 6, 7, 8, 9]), (11, [0, 1, 2, 3, 4, 5, 6, 7, 8, 9]), (12, [0, 1, 2, 3, 4, 5, 6, 7, 8, 9]), (13, [0, 1, 2, 3, 4, 5, 6, 7, 8, 9]), (14, [0, 1, 2, 3, 4, 5, 6, 7, 8, 9]), (15, [0, 1, 2, 3, 4, 5, 6, 7, 8, 9]), (16, [0, 1, 2, 3, 4, 5]), (17, [5, 14, 15, 16]), (18, [5, 14, 15, 16]), (19, []), (20, []), (21, [])] (by decide +kernel) ?_; conv => whnf)
        | omega
        | (refine And.intro ?_ ?_; ((try dsimp only); first | omega | (refine ⟨by omega, by omega, Int.le_trans (Int.mul_le_mul_of_nonneg_right (Int.ofNat_le.2 (Nat.le_of_ble_eq_true (rfl : Nat.ble _ 1024 = true))) (by omega)) (by omega), by omega⟩) | (refine Nat.le_trans (Nat.mul_le_mul_left _ (Nat.le_of_ble_eq_true (rfl : Nat.ble _ 1024 = true))) ?_; omega) | (unfold inI64; omega) | (constructor <;> omega) | (simp only [inI64, List.length_cons, List.length_append, List.length_nil, List.length_set] at *; omega) | decide | (unfold inI64; decide)); conv => whnf)
        | omega | decide | assumption)
      all_goals first
        | (exfalso; omega)
        | (refine .ret _ ?_
           conv => whnf
           exact ⟨_, ⟨rfl, 1000002, .inl rfl, rfl⟩, Res.le_refl _, Res.le_refl _, Res.le_refl _, Res.le_refl _, trivial⟩)
    · rw [rs_succ]
      unfold rsBd at hbd
      refine spec_of hT (C := []) Tryz.func135 rfl Tryz.call135 rfl rfl rfl ?_
      conv => whnf
      repeat' (first
        | (refine br_intro (fun hb => ?_) (fun hb => ?_) <;> (try simp only [decide_eq_true_eq, decide_eq_false_iff_not, Bool.not_eq_true', Bool.not_eq_false', Bool.and_eq_true, Bool.or_eq_true, beq_iff_eq, not_and, Int.not_le, Int.not_lt, Int.toNat_natCast, beq_eq_false_iff_ne, ne_eq, eq_self, not_true_eq_false, not_false_eq_true] at hb) <;> (conv => whnf))
        | (refine RegX.rule (id := 1) hT rfl [] [(0, []), (1, []), (2, []), (3, []), (4, []), (5, [0, 1, 2, 3, 4]), (6, [0, 1, 2, 3, 4]), (7, [0, 1, 2, 3, 4]), (8, [0, 1, 2, 3, 4]), (9, [0, 1, 2, 3, 4]), (10, [])] (by decide +kernel) ?_; conv => whnf)
        | (refine RegX.rule (id := 2) hT rfl [] [(0, []), (1, []), (2, []), (3, []), (4, [0, 1, 2, 3]), (5, [0, 1, 2, 3, 4]), (6, [0, 1, 2, 3, 4]), (7, [0, 1, 2, 3, 4]), (8, [0, 1, 2, 3, 4]), (9, []), (10, []), (11, []), (12, [11]), (13, [12]), (14, [])] (by decide +kernel) ?_; conv => whnf)
        | (refine RegX.rule (id := 9) hT rfl [] [(0, []), (1, []), (2, []), (3, []), (4, [0, 1, 2, 3]), (5, [0, 1, 2, 3, 4]), (6, []), (7, []), (8, []), (9, [8]), (10, [9]), (11, [])] (by decide +kernel) ?_; conv => whnf)
        | (refine RegX.rule (id := 11) hT rfl [] [(0, []), (1, []), (2, []), (3, []), (4, [0, 1, 2, 3]), (5, [0, 1, 2, 3, 4]), (6, [0, 1, 2, 3, 4, 5]), (7, [0, 1, 2, 3, 4, 5]), (8, [0, 1, 2, 3, 4, 5]), (9, [0, 1, 2, 3, 4, 5]), (10, [0, 1, 2, 3, 4, 5, 6, 7, 8, 9]), (11, [0, 1, 2, 3, 4, 5, 6, 7, 8, 9]), (12, [0, 1, 2, 3, 4, 5]), (13, [5]), (14, [5]), (15, []), (16, []), (17, [])] (by decide +kernel) ?_; conv => whnf)
        | (refine RegX.rule (id := 13) hT rfl [] [(0, []), (1, []), (2, []), (3, []), (4, [0, 1, 2, 3]), (5, [0, 1, 2, 3, 4]), (6, [0, 1, 2, 3, 4, 5]), (7, [0, 1, 2, 3, 4, 5]), (8, [0, 1, 2, 3, 4, 5]), (9, [0, 1, 2, 3, 4, 5]), (10, [0, 1, 2, 3, 4, 5, 6, 7, 8, 9]), (11, [0, 1, 2, 3, 4, 5, 6, 7, 8, 9]), (12, [0, 1, 2, 3, 4, 5, 6, 7, 8, 9]), (13, [0, 1, 2, 3, 4, 5, 6, 7, 8, 9]), (14, [0, 1, 2, 3, 4, 5, 6, 7, 8, 9]), (15, [0, 1, 2, 3, 4, 5, 6, 7, 8, 9]), (16, [0, 1, 2, 3, 4, 5]), (17, [5, 14, 15, 16]), (18, [5, 14, 15, 16]), (19, []), (20, []), (21, [])] (by decide +kernel) ?_; conv => whnf)
        | omega
        | (refine And.intro ?_ ?_; ((try dsimp only); first | omega | (refine ⟨by omega, by omega, Int.le_trans (Int.mul_le_mul_of_nonneg_right (Int.ofNat_le.2 (Nat.le_of_ble_eq_true (rfl : Nat.ble _ 1024 = true))) (by omega)) (by omega), by omega⟩) | (refine Nat.le_trans (Nat.mul_le_mul_left _ (Nat.le_of_ble_eq_true (rfl : Nat.ble _ 1024 = true))) ?_; omega) | (unfold inI64; omega) | (constructor <;> omega) | (simp only [inI64, List.length_cons, List.length_append, List.length_nil, List.length_set] at *; omega) | decide | (unfold inI64; decide)); conv => whnf)
        | omega | decide | assumption)
      all_goals try (exfalso; omega)
      all_goals
        refine LoopX.rule hT (C := []) (ι := Bool × Nat) (fun (_, k) => k ≤ m.length) (fun (q, k) => mkSt [(0, .ptr 1000000 0), (1, .d (.str c)), (2, .d (.int .i64 s)), (84, .d (movs m)), (85, .d (.int .i64 m.length)), (86, .d (.int .i64 k))]
          (trR l start m (bif q then 60 else 1000002) o ((List.range k).foldl (stepS l start m d o) st))) (fun (_, k) => m.length - k) (false, 0) (by simp) (by (refine Entails.mk' [(1000000, 1000000), (1000002, 1000002), (1000001, 1000001), (1000004, 1000004)] rfl rfl ?_ ?_ <;> repeat' (first | exact True.intro | exact SV.le_refl _ | exact Res.le_refl _ | exact SV.le_int (by omega) | exact SV.le_any _ | refine And.intro ?_ ?_)); done) ?_
        rintro ⟨q, k⟩ p1
        have p1 : k ≤ m.length := p1
        have e1 : (k : Int).toNat = k := Int.toNat_natCast k
        have hfl := foldS_len (l := l) (start := start) (m := m) (d := d) (o := o) (st := st) (n := 100) (by omega) hst (List.range k)
        have hfb := foldS_bd hl (start := start) (m := m) (d := d) (o := o) (st := st) (by omega) hbd (List.range k)
        have hstep := foldS_ok (l := l) (start := start) (m := m) (d := d) (o := o) (st := st) k
        obtain ⟨t, ht⟩ : ∃ t, t = (List.range k).foldl (stepS l start m d o) st := ⟨_, rfl⟩
        show wpx _ _ _ _ _ (mkSt _ (trR l start m _ o ((List.range k).foldl (stepS l start m d o) st)))
        rw [← ht] at hfl hfb hstep ⊢
        by_cases hk : k < m.length
        · have hug := usedO_get (o := o) hk
          have h153 := z153 l hl c (m.getD (k : Int).toNat mv0)
          have hmk := makeO_eq l c (m.getD (k : Int).toNat mv0)
          have hsn : partR l start m (o ++ [(k : Int)]) = (makeO l c (m.getD (k : Int).toNat mv0)).map fun n => ((m.getD (k : Int).toNat mv0).b, s + n) := by rw [partR_snoc, hp]; rfl
          have hmb := rideV_bd hl c (m.getD (k : Int).toNat mv0).a
          have hmc := roadC_bd hl (m.getD (k : Int).toNat mv0).a (m.getD (k : Int).toNat mv0).b
          have hmv : makeV l c (m.getD (k : Int).toNat mv0) = rideV l c (m.getD (k : Int).toNat mv0).a + ((roadO l (m.getD (k : Int).toNat mv0).a (m.getD (k : Int).toNat mv0).b).getD rd0).car := rfl
          have hul2 := usedO_len m.length (o ++ [(k : Int)])
          by_cases hc : o.contains (k : Int) = true
          · have hstep2 : (List.range (k + 1)).foldl (stepS l start m d o) st = t := by rw [hstep]; unfold stepS; rw [hc]; rfl
            rw [hc] at hug
            cases q
            all_goals
              conv => whnf
              repeat' (first
                | (refine br_intro (fun hb => ?_) (fun hb => ?_) <;> (try simp only [decide_eq_true_eq, decide_eq_false_iff_not, Bool.not_eq_true', Bool.not_eq_false', Bool.and_eq_true, Bool.or_eq_true, beq_iff_eq, not_and, Int.not_le, Int.not_lt, Int.toNat_natCast, beq_eq_false_iff_ne, ne_eq, eq_self, not_true_eq_false, not_false_eq_true] at hb) <;> (conv => whnf))
                | (refine RegX.rule (id := 1) hT rfl [] [(0, []), (1, []), (2, []), (3, []), (4, []), (5, [0, 1, 2, 3, 4]), (6, [0, 1, 2, 3, 4]), (7, [0, 1, 2, 3, 4]), (8, [0, 1, 2, 3, 4]), (9, [0, 1, 2, 3, 4]), (10, [])] (by decide +kernel) ?_; conv => whnf)
                | (refine RegX.rule (id := 2) hT rfl [] [(0, []), (1, []), (2, []), (3, []), (4, [0, 1, 2, 3]), (5, [0, 1, 2, 3, 4]), (6, [0, 1, 2, 3, 4]), (7, [0, 1, 2, 3, 4]), (8, [0, 1, 2, 3, 4]), (9, []), (10, []), (11, []), (12, [11]), (13, [12]), (14, [])] (by decide +kernel) ?_; conv => whnf)
                | (refine RegX.rule (id := 9) hT rfl [] [(0, []), (1, []), (2, []), (3, []), (4, [0, 1, 2, 3]), (5, [0, 1, 2, 3, 4]), (6, []), (7, []), (8, []), (9, [8]), (10, [9]), (11, [])] (by decide +kernel) ?_; conv => whnf)
                | (refine RegX.rule (id := 11) hT rfl [] [(0, []), (1, []), (2, []), (3, []), (4, [0, 1, 2, 3]), (5, [0, 1, 2, 3, 4]), (6, [0, 1, 2, 3, 4, 5]), (7, [0, 1, 2, 3, 4, 5]), (8, [0, 1, 2, 3, 4, 5]), (9, [0, 1, 2, 3, 4, 5]), (10, [0, 1, 2, 3, 4, 5, 6, 7, 8, 9]), (11, [0, 1, 2, 3, 4, 5, 6, 7, 8, 9]), (12, [0, 1, 2, 3, 4, 5]), (13, [5]), (14, [5]), (15, []), (16, []), (17, [])] (by decide +kernel) ?_; conv => whnf)
                | (refine RegX.rule (id := 13) hT rfl [] [(0, []), (1, []), (2, []), (3, []), (4, [0, 1, 2, 3]), (5, [0, 1, 2, 3, 4]), (6, [0, 1, 2, 3, 4, 5]), (7, [0, 1, 2, 3, 4, 5]), (8, [0, 1, 2, 3, 4, 5]), (9, [0, 1, 2, 3, 4, 5]), (10, [0, 1, 2, 3, 4, 5, 6, 7, 8, 9]), (11, [0, 1, 2, 3, 4, 5, 6, 7, 8, 9]), (12, [0, 1, 2, 3, 4, 5, 6, 7, 8, 9]), (13, [0, 1, 2, 3, 4, 5, 6, 7, 8, 9]), (14, [0, 1, 2, 3, 4, 5, 6, 7, 8, 9]), (15, [0, 1, 2, 3, 4, 5, 6, 7, 8, 9]), (16, [0, 1, 2, 3, 4, 5]), (17, [5, 14, 15, 16]), (18, [5, 14, 15, 16]), (19, []), (20, []), (21, [])] (by decide +kernel) ?_; conv => whnf)
                | omega
                | (refine And.intro ?_ ?_; ((try dsimp only); first | omega | (refine ⟨by omega, by omega, Int.le_trans (Int.mul_le_mul_of_nonneg_right (Int.ofNat_le.2 (Nat.le_of_ble_eq_true (rfl : Nat.ble _ 1024 = true))) (by omega)) (by omega), by omega⟩) | (refine Nat.le_trans (Nat.mul_le_mul_left _ (Nat.le_of_ble_eq_true (rfl : Nat.ble _ 1024 = true))) ?_; omega) | (unfold inI64; omega) | (constructor <;> omega) | (simp only [inI64, List.length_cons, List.length_append, List.length_nil, List.length_set] at *; omega) | decide | (unfold inI64; decide)); conv => whnf)
                | omega | decide | assumption)
            all_goals first
              | (exfalso; rw [hug] at *; simp at *; done)
              | (refine ⟨(false, k + 1), by show k + 1 ≤ m.length; omega, (show m.length - (k + 1) < m.length - k by omega), ?_⟩
                 show Entails _ (mkSt _ (trR l start m _ o ((List.range (k + 1)).foldl (stepS l start m d o) st)))
                 rw [hstep2]
                 exact Entails.mk' [(1000000, 1000000), (1000002, 1000002), (1000001, 1000001), (1000004, 1000004)] rfl rfl ⟨SV.le_refl _, SV.le_refl _, SV.le_refl _, SV.le_refl _, SV.le_refl _, SV.le_refl _, trivial⟩ ⟨Res.le_refl _, Res.le_refl _, Res.le_refl _, Res.le_refl _, trivial⟩)
              | (refine ⟨(true, k + 1), by show k + 1 ≤ m.length; omega, (show m.length - (k + 1) < m.length - k by omega), ?_⟩
                 show Entails _ (mkSt _ (trR l start m _ o ((List.range (k + 1)).foldl (stepS l start m d o) st)))
                 rw [hstep2]
                 exact Entails.mk' [(1000000, 1000000), (60, 60), (1000001, 1000001), (1000004, 1000004)] rfl rfl ⟨SV.le_refl _, SV.le_refl _, SV.le_refl _, SV.le_refl _, SV.le_refl _, SV.le_refl _, trivial⟩ ⟨Res.le_refl _, Res.le_refl _, Res.le_refl _, Res.le_refl _, trivial⟩)
          · have hc : o.contains (k : Int) = false := by simpa using hc
            rw [hc] at hug
            have hstep2 : (List.range (k + 1)).foldl (stepS l start m d o) st = rs l start m d (o ++ [(k : Int)]) t := by rw [hstep]; unfold stepS; rw [hc]; rfl
            cases hM : makeO l c (m.getD (k : Int).toNat mv0) with
            | none =>
              rw [hM] at h153 hsn
              have hdead := rs_dead (l := l) (start := start) (m := m) d (o ++ [(k : Int)]) t hsn
              rw [hdead] at hstep2
              cases q
              all_goals
                conv => whnf
                repeat' (first
                  | (refine CallX.of h153 [(1000001, 1000004)] rfl ⟨SV.le_refl _, SV.le_refl _, SV.le_refl _, trivial⟩ ⟨Res.le_refl _, trivial⟩ rfl rfl ?_; rintro x rout ⟨rfl, rfl⟩; refine ⟨rfl, ?_⟩; conv => whnf)
                  | (refine br_intro (fun hb => ?_) (fun hb => ?_) <;> (try simp only [decide_eq_true_eq, decide_eq_false_iff_not, Bool.not_eq_true', Bool.not_eq_false', Bool.and_eq_true, Bool.or_eq_true, beq_iff_eq, not_and, Int.not_le, Int.not_lt, Int.toNat_natCast, beq_eq_false_iff_ne, ne_eq, eq_self, not_true_eq_false, not_false_eq_true] at hb) <;> (conv => whnf))
                  | (refine RegX.rule (id := 1) hT rfl [] [(0, []), (1, []), (2, []), (3, []), (4, []), (5, [0, 1, 2, 3, 4]), (6, [0, 1, 2, 3, 4]), (7, [0, 1, 2, 3, 4]), (8, [0, 1, 2, 3, 4]), (9, [0, 1, 2, 3, 4]), (10, [])] (by decide +kernel) ?_; conv => whnf)
                  | (refine RegX.rule (id := 2) hT rfl [] [(0, []), (1, []), (2, []), (3, []), (4, [0, 1, 2, 3]), (5, [0, 1, 2, 3, 4]), (6, [0, 1, 2, 3, 4]), (7, [0, 1, 2, 3, 4]), (8, [0, 1, 2, 3, 4]), (9, []), (10, []), (11, []), (12, [11]), (13, [12]), (14, [])] (by decide +kernel) ?_; conv => whnf)
                  | (refine RegX.rule (id := 9) hT rfl [] [(0, []), (1, []), (2, []), (3, []), (4, [0, 1, 2, 3]), (5, [0, 1, 2, 3, 4]), (6, []), (7, []), (8, []), (9, [8]), (10, [9]), (11, [])] (by decide +kernel) ?_; conv => whnf)
                  | (refine RegX.rule (id := 11) hT rfl [] [(0, []), (1, []), (2, []), (3, []), (4, [0, 1, 2, 3]), (5, [0, 1, 2, 3, 4]), (6, [0, 1, 2, 3, 4, 5]), (7, [0, 1, 2, 3, 4, 5]), (8, [0, 1, 2, 3, 4, 5]), (9, [0, 1, 2, 3, 4, 5]), (10, [0, 1, 2, 3, 4, 5, 6, 7, 8, 9]), (11, [0, 1, 2, 3, 4, 5, 6, 7, 8, 9]), (12, [0, 1, 2, 3, 4, 5]), (13, [5]), (14, [5]), (15, []), (16, []), (17, [])] (by decide +kernel) ?_; conv => whnf)
                  | (refine RegX.rule (id := 13) hT rfl [] [(0, []), (1, []), (2, []), (3, []), (4, [0, 1, 2, 3]), (5, [0, 1, 2, 3, 4]), (6, [0, 1, 2, 3, 4, 5]), (7, [0, 1, 2, 3, 4, 5]), (8, [0, 1, 2, 3, 4, 5]), (9, [0, 1, 2, 3, 4, 5]), (10, [0, 1, 2, 3, 4, 5, 6, 7, 8, 9]), (11, [0, 1, 2, 3, 4, 5, 6, 7, 8, 9]), (12, [0, 1, 2, 3, 4, 5, 6, 7, 8, 9]), (13, [0, 1, 2, 3, 4, 5, 6, 7, 8, 9]), (14, [0, 1, 2, 3, 4, 5, 6, 7, 8, 9]), (15, [0, 1, 2, 3, 4, 5, 6, 7, 8, 9]), (16, [0, 1, 2, 3, 4, 5]), (17, [5, 14, 15, 16]), (18, [5, 14, 15, 16]), (19, []), (20, []), (21, [])] (by decide +kernel) ?_; conv => whnf)
                  | omega
                  | (refine And.intro ?_ ?_; ((try dsimp only); first | omega | (refine ⟨by omega, by omega, Int.le_trans (Int.mul_le_mul_of_nonneg_right (Int.ofNat_le.2 (Nat.le_of_ble_eq_true (rfl : Nat.ble _ 1024 = true))) (by omega)) (by omega), by omega⟩) | (refine Nat.le_trans (Nat.mul_le_mul_left _ (Nat.le_of_ble_eq_true (rfl : Nat.ble _ 1024 = true))) ?_; omega) | (unfold inI64; omega) | (constructor <;> omega) | (simp only [inI64, List.length_cons, List.length_append, List.length_nil, List.length_set] at *; omega) | decide | (unfold inI64; decide)); conv => whnf)
                  | omega | decide | assumption)
              all_goals first
                | (exfalso; rw [hug] at *; simp at *; done)
                | (refine ⟨(false, k + 1), by show k + 1 ≤ m.length; omega, (show m.length - (k + 1) < m.length - k by omega), ?_⟩
                   show Entails _ (mkSt _ (trR l start m _ o ((List.range (k + 1)).foldl (stepS l start m d o) st)))
                   rw [hstep2]
                   exact Entails.mk' [(1000000, 1000000), (1000002, 1000002), (1000001, 1000001), (1000004, 1000004)] rfl rfl ⟨SV.le_refl _, SV.le_refl _, SV.le_refl _, SV.le_refl _, SV.le_refl _, SV.le_refl _, trivial⟩ ⟨Res.le_refl _, Res.le_refl _, Res.le_refl _, Res.le_refl _, trivial⟩)
                | (refine ⟨(true, k + 1), by show k + 1 ≤ m.length; omega, (show m.length - (k + 1) < m.length - k by omega), ?_⟩
                   show Entails _ (mkSt _ (trR l start m _ o ((List.range (k + 1)).foldl (stepS l start m d o) st)))
                   rw [hstep2]
                   exact Entails.mk' [(1000000, 1000000), (60, 60), (1000001, 1000001), (1000004, 1000004)] rfl rfl ⟨SV.le_refl _, SV.le_refl _, SV.le_refl _, SV.le_refl _, SV.le_refl _, SV.le_refl _, trivial⟩ ⟨Res.le_refl _, Res.le_refl _, Res.le_refl _, Res.le_refl _, trivial⟩)
            | some v =>
              have hvv := hmk.2 v hM
              rw [hM] at h153 hsn
              rw [hvv] at h153 hmv
              have ihm := ih (o ++ [(k : Int)]) (m.getD (k : Int).toNat mv0).b (s + v) t (by simp; omega) hsn hfl hfb
              have hfl3 := rs_len (l := l) (start := start) (m := m) d (o ++ [(k : Int)]) t 100 (by simp; omega) hfl
              generalize rs l start m d (o ++ [(k : Int)]) t = t2 at ihm hstep2 hfl3
              have hset : Res.le (.buf 4 1 (usedO m.length o).length fun j => bif Nat.beq j (k : Int).toNat then setAtD (rowF bF false (usedO m.length o) j) 0 [.bool true] else rowF bF false (usedO m.length o) j) (seqB 4 1 bF false (usedO m.length (o ++ [(k : Int)]))) := by
                rw [← usedO_snoc (x := (k : Int)) (by omega) (by omega)]; exact Res.le_upd (fun _ => true) (fun _ => rfl)
              have hback : Res.le (.buf 4 1 (usedO m.length (o ++ [(k : Int)])).length fun j => bif Nat.beq j (k : Int).toNat then setAtD (rowF bF false (usedO m.length (o ++ [(k : Int)])) j) 0 [.bool false] else rowF bF false (usedO m.length (o ++ [(k : Int)])) j) (seqB 4 1 bF false (usedO m.length o)) := by
                have h := Res.le_upd (f := bF) (d := false) (l := usedO m.length (o ++ [(k : Int)])) (e := 4) (k := 1) (j := (k : Int).toNat) (off := 0) (ds := [.bool false]) (fun _ => false) (fun _ => rfl)
                rwa [e1, usedO_back hk hc, ← e1] at h
              have hlen : (o ++ [(k : Int)]).length = o.length + 1 := by simp
              cases q
              all_goals
                conv => whnf
                repeat' (first
                  | (refine CallX.of h153 [(1000001, 1000004)] rfl ⟨SV.le_refl _, SV.le_refl _, SV.le_refl _, trivial⟩ ⟨Res.le_refl _, trivial⟩ rfl rfl ?_; rintro x rout ⟨rfl, rfl⟩; refine ⟨rfl, ?_⟩; conv => whnf)
                  | (refine CallX.of ihm [(1000000, 1000000), (1000002, 121), (1000001, 1000001), (1000004, 1000004), (60, 900)] rfl ⟨SV.le_refl _, SV.le_refl _, SV.le_refl _, trivial⟩ ⟨Res.le_refl _, Res.le_snocF (l := o) (x := (k : Int)) rfl, hset, Res.le_refl _, trivial⟩ rfl rfl ?_; rintro x rout ⟨rfl, nm, (rfl | rfl), rfl⟩ <;> (refine ⟨rfl, ?_⟩; conv => whnf); conv => whnf)
                  | (refine br_intro (fun hb => ?_) (fun hb => ?_) <;> (try simp only [decide_eq_true_eq, decide_eq_false_iff_not, Bool.not_eq_true', Bool.not_eq_false', Bool.and_eq_true, Bool.or_eq_true, beq_iff_eq, not_and, Int.not_le, Int.not_lt, Int.toNat_natCast, beq_eq_false_iff_ne, ne_eq, eq_self, not_true_eq_false, not_false_eq_true] at hb) <;> (conv => whnf))
                  | (refine RegX.rule (id := 1) hT rfl [] [(0, []), (1, []), (2, []), (3, []), (4, []), (5, [0, 1, 2, 3, 4]), (6, [0, 1, 2, 3, 4]), (7, [0, 1, 2, 3, 4]), (8, [0, 1, 2, 3, 4]), (9, [0, 1, 2, 3, 4]), (10, [])] (by decide +kernel) ?_; conv => whnf)
                  | (refine RegX.rule (id := 2) hT rfl [] [(0, []), (1, []), (2, []), (3, []), (4, [0, 1, 2, 3]), (5, [0, 1, 2, 3, 4]), (6, [0, 1, 2, 3, 4]), (7, [0, 1, 2, 3, 4]), (8, [0, 1, 2, 3, 4]), (9, []), (10, []), (11, []), (12, [11]), (13, [12]), (14, [])] (by decide +kernel) ?_; conv => whnf)
                  | (refine RegX.rule (id := 9) hT rfl [] [(0, []), (1, []), (2, []), (3, []), (4, [0, 1, 2, 3]), (5, [0, 1, 2, 3, 4]), (6, []), (7, []), (8, []), (9, [8]), (10, [9]), (11, [])] (by decide +kernel) ?_; conv => whnf)
                  | (refine RegX.rule (id := 11) hT rfl [] [(0, []), (1, []), (2, []), (3, []), (4, [0, 1, 2, 3]), (5, [0, 1, 2, 3, 4]), (6, [0, 1, 2, 3, 4, 5]), (7, [0, 1, 2, 3, 4, 5]), (8, [0, 1, 2, 3, 4, 5]), (9, [0, 1, 2, 3, 4, 5]), (10, [0, 1, 2, 3, 4, 5, 6, 7, 8, 9]), (11, [0, 1, 2, 3, 4, 5, 6, 7, 8, 9]), (12, [0, 1, 2, 3, 4, 5]), (13, [5]), (14, [5]), (15, []), (16, []), (17, [])] (by decide +kernel) ?_; conv => whnf)
                  | (refine RegX.rule (id := 13) hT rfl [] [(0, []), (1, []), (2, []), (3, []), (4, [0, 1, 2, 3]), (5, [0, 1, 2, 3, 4]), (6, [0, 1, 2, 3, 4, 5]), (7, [0, 1, 2, 3, 4, 5]), (8, [0, 1, 2, 3, 4, 5]), (9, [0, 1, 2, 3, 4, 5]), (10, [0, 1, 2, 3, 4, 5, 6, 7, 8, 9]), (11, [0, 1, 2, 3, 4, 5, 6, 7, 8, 9]), (12, [0, 1, 2, 3, 4, 5, 6, 7, 8, 9]), (13, [0, 1, 2, 3, 4, 5, 6, 7, 8, 9]), (14, [0, 1, 2, 3, 4, 5, 6, 7, 8, 9]), (15, [0, 1, 2, 3, 4, 5, 6, 7, 8, 9]), (16, [0, 1, 2, 3, 4, 5]), (17, [5, 14, 15, 16]), (18, [5, 14, 15, 16]), (19, []), (20, []), (21, [])] (by decide +kernel) ?_; conv => whnf)
                  | omega
                  | (refine And.intro ?_ ?_; ((try dsimp only); first | omega | (refine ⟨by omega, by omega, Int.le_trans (Int.mul_le_mul_of_nonneg_right (Int.ofNat_le.2 (Nat.le_of_ble_eq_true (rfl : Nat.ble _ 1024 = true))) (by omega)) (by omega), by omega⟩) | (refine Nat.le_trans (Nat.mul_le_mul_left _ (Nat.le_of_ble_eq_true (rfl : Nat.ble _ 1024 = true))) ?_; omega) | (unfold inI64; omega) | (constructor <;> omega) | (simp only [inI64, List.length_cons, List.length_append, List.length_nil, List.length_set] at *; omega) | decide | (unfold inI64; decide)); conv => whnf)
                  | omega | decide | assumption)
              all_goals first
                | (exfalso; rw [hug] at *; simp at *; done)
                | (refine ⟨(true, k + 1), by show k + 1 ≤ m.length; omega, (show m.length - (k + 1) < m.length - k by omega), ?_⟩
                   show Entails _ (mkSt _ (trR l start m _ o ((List.range (k + 1)).foldl (stepS l start m d o) st)))
                   rw [hstep2]
                   first
                     | (refine (Entails.cutCell 1000000 121 2000 3 1 _ _ 4 _ rfl rfl rfl rfl rfl rfl).trans ?_; exact Entails.mk' [(1000000, 1000000), (60, 2000), (1000001, 1000001), (1000004, 1000004)] rfl rfl ⟨SV.le_refl _, SV.le_refl _, SV.le_refl _, SV.le_refl _, SV.le_refl _, SV.le_refl _, trivial⟩ ⟨Res.le_refl _, Res.le_cutF (by omega) (fun i hi => by rw [getD_app_lt hi]), hback, Res.le_refl _, trivial⟩)
                     | (refine (Entails.cutCell 1000000 900 2000 3 1 _ _ 4 _ rfl rfl rfl rfl rfl rfl).trans ?_; exact Entails.mk' [(1000000, 1000000), (60, 2000), (1000001, 1000001), (1000004, 1000004)] rfl rfl ⟨SV.le_refl _, SV.le_refl _, SV.le_refl _, SV.le_refl _, SV.le_refl _, SV.le_refl _, trivial⟩ ⟨Res.le_refl _, Res.le_cutF (by omega) (fun i hi => by rw [getD_app_lt hi]), hback, Res.le_refl _, trivial⟩))
        · obtain rfl : k = m.length := by omega
          rw [← ht]
          cases q
          all_goals
            conv => whnf
            repeat' (first
              | (refine br_intro (fun hb => ?_) (fun hb => ?_) <;> (try simp only [decide_eq_true_eq, decide_eq_false_iff_not, Bool.not_eq_true', Bool.not_eq_false', Bool.and_eq_true, Bool.or_eq_true, beq_iff_eq, not_and, Int.not_le, Int.not_lt, Int.toNat_natCast, beq_eq_false_iff_ne, ne_eq, eq_self, not_true_eq_false, not_false_eq_true] at hb) <;> (conv => whnf))
              | (refine RegX.rule (id := 1) hT rfl [] [(0, []), (1, []), (2, []), (3, []), (4, []), (5, [0, 1, 2, 3, 4]), (6, [0, 1, 2, 3, 4]), (7, [0, 1, 2, 3, 4]), (8, [0, 1, 2, 3, 4]), (9, [0, 1, 2, 3, 4]), (10, [])] (by decide +kernel) ?_; conv => whnf)
              | (refine RegX.rule (id := 2) hT rfl [] [(0, []), (1, []), (2, []), (3, []), (4, [0, 1, 2, 3]), (5, [0, 1, 2, 3, 4]), (6, [0, 1, 2, 3, 4]), (7, [0, 1, 2, 3, 4]), (8, [0, 1, 2, 3, 4]), (9, []), (10, []), (11, []), (12, [11]), (13, [12]), (14, [])] (by decide +kernel) ?_; conv => whnf)
              | (refine RegX.rule (id := 9) hT rfl [] [(0, []), (1, []), (2, []), (3, []), (4, [0, 1, 2, 3]), (5, [0, 1, 2, 3, 4]), (6, []), (7, []), (8, []), (9, [8]), (10, [9]), (11, [])] (by decide +kernel) ?_; conv => whnf)
              | (refine RegX.rule (id := 11) hT rfl [] [(0, []), (1, []), (2, []), (3, []), (4, [0, 1, 2, 3]), (5, [0, 1, 2, 3, 4]), (6, [0, 1, 2, 3, 4, 5]), (7, [0, 1, 2, 3, 4, 5]), (8, [0, 1, 2, 3, 4, 5]), (9, [0, 1, 2, 3, 4, 5]), (10, [0, 1, 2, 3, 4, 5, 6, 7, 8, 9]), (11, [0, 1, 2, 3, 4, 5, 6, 7, 8, 9]), (12, [0, 1, 2, 3, 4, 5]), (13, [5]), (14, [5]), (15, []), (16, []), (17, [])] (by decide +kernel) ?_; conv => whnf)
              | (refine RegX.rule (id := 13) hT rfl [] [(0, []), (1, []), (2, []), (3, []), (4, [0, 1, 2, 3]), (5, [0, 1, 2, 3, 4]), (6, [0, 1, 2, 3, 4, 5]), (7, [0, 1, 2, 3, 4, 5]), (8, [0, 1, 2, 3, 4, 5]), (9, [0, 1, 2, 3, 4, 5]), (10, [0, 1, 2, 3, 4, 5, 6, 7, 8, 9]), (11, [0, 1, 2, 3, 4, 5, 6, 7, 8, 9]), (12, [0, 1, 2, 3, 4, 5, 6, 7, 8, 9]), (13, [0, 1, 2, 3, 4, 5, 6, 7, 8, 9]), (14, [0, 1, 2, 3, 4, 5, 6, 7, 8, 9]), (15, [0, 1, 2, 3, 4, 5, 6, 7, 8, 9]), (16, [0, 1, 2, 3, 4, 5]), (17, [5, 14, 15, 16]), (18, [5, 14, 15, 16]), (19, []), (20, []), (21, [])] (by decide +kernel) ?_; conv => whnf)
              | omega
              | (refine And.intro ?_ ?_; ((try dsimp only); first | omega | (refine ⟨by omega, by omega, Int.le_trans (Int.mul_le_mul_of_nonneg_right (Int.ofNat_le.2 (Nat.le_of_ble_eq_true (rfl : Nat.ble _ 1024 = true))) (by omega)) (by omega), by omega⟩) | (refine Nat.le_trans (Nat.mul_le_mul_left _ (Nat.le_of_ble_eq_true (rfl : Nat.ble _ 1024 = true))) ?_; omega) | (unfold inI64; omega) | (constructor <;> omega) | (simp only [inI64, List.length_cons, List.length_append, List.length_nil, List.length_set] at *; omega) | decide | (unfold inI64; decide)); conv => whnf)
              | omega | decide | assumption)
          all_goals first
            | (refine .ent _ (mkSt [] (trR l start m 1000002 o t)) (Entails.mk' [(1000000, 1000000), (1000002, 1000002), (1000001, 1000001), (1000004, 1000004)] rfl rfl trivial ⟨Res.le_refl _, Res.le_refl _, Res.le_refl _, Res.le_refl _, trivial⟩) (.ret _ ?_)
               (conv => whnf)
               exact ⟨_, ⟨rfl, 1000002, .inl rfl, rfl⟩, Res.le_refl _, Res.le_refl _, Res.le_refl _, Res.le_refl _, trivial⟩)
            | (refine .ent _ (mkSt [] (trR l start m 60 o t)) (Entails.mk' [(1000000, 1000000), (60, 60), (1000001, 1000001), (1000004, 1000004)] rfl rfl trivial ⟨Res.le_refl _, Res.le_refl _, Res.le_refl _, Res.le_refl _, trivial⟩) (.ret _ ?_)
               (conv => whnf)
               exact ⟨_, ⟨rfl, 60, .inr rfl, rfl⟩, Res.le_refl _, Res.le_refl _, Res.le_refl _, Res.le_refl _, trivial⟩)
end Go.Proofs.YtnkdlkgannnfhaaGreatDoor
set_option maxRecDepth 20000
namespace Go.Proofs.YtnkdlkgannnfhaaGreatDoor
open Go Go.Eng
def bestR (l : List Roa) (start : List UInt8) (m : List Mov) : RSt := rs l start m m.length [] ([], -1)
def rndE (l : List Roa) (start : List UInt8) (m : List Mov) : Int := if firstE [drvE l start m, if 8 < m.length then 2 else 0] ≠ 0 then firstE [drvE l start m, if 8 < m.length then 2 else 0] else if (bestR l start m).2 < 0 then 8 else 0
def rndT (l : List Roa) (start : List UInt8) (m : List Mov) : SV := if rndE l start m = 0 then .tup [.d (ints (bestR l start m).1), .d (.int .i64 (bestR l start m).2), .d (.int .i64 0)] else .tup [.d .nilsl, .d (.int .i64 0), .d (.int .i64 (rndE l start m))]
theorem z135n (l : List Roa) (hl : rdsE l = 0) (start : List UInt8) (m : List Mov) (hm : m.length ≤ 100) :
    FSpec Tryz.prog 135 [.ptr 1000000 0, .d (.str start), .d (.int .i64 0)] [(1000000, .cells 203 [.mp 1000004, .d (.str start), .d (movs m), .buf 1000001, .d .nilsl, .d (ints []), .d (.int .i64 (-1))]), (1000001, seqB 4 1 bF false (usedO m.length [])), (1000004, netG l)]
      (fun y r' => y = .tup [] ∧ ∃ nm, (nm = 1000002 ∨ nm = 60) ∧ r' = trR l start m nm [] (bestR l start m)) :=
  FSpec.nilCell (c := 1000000) (d := 1000002) (e := 3) (k := 1) (j := 4) (g := rowF iF 0 []) (z135 l hl start m hm m.length [] start 0 ([], -1) (by simp) rfl (by simp) ⟨by simp, by simp⟩) (by decide) rfl rfl rfl
-- shift.Round
set_option maxHeartbeats 4000000 in
theorem z41 (l : List Roa) (start : List UInt8) (m : List Mov) (hrl : rdOk l) (hs : start.length ≤ 2^40) (hml : mvOk m) (hm : m.length ≤ 100) :
    FSpec Tryz.prog 41 [.d (roas l), .d (.str start), .d (movs m)] [] (fun y r => y = rndT l start m ∧ r = []) := by
  have h134 := z134 l start m hrl hs hml
  have h107 : FSpec Tryz.prog 121 [.d (.bool (decide ((8 : Int) < (m.length : Int)))), .d (.int .i64 2)] [] (fun x r => x = .d (.int .i64 (if 8 < m.length then 2 else 0)) ∧ r = []) := by
    have h := s107 (decide ((8 : Int) < (m.length : Int))) 2
    by_cases e : 8 < m.length
    · rw [if_pos e]; rw [decide_eq_true (by omega)] at h ⊢; exact h
    · rw [if_neg e]; rw [decide_eq_false (by omega)] at h ⊢; exact h
  have h105 := s105 [drvE l start m, if 8 < m.length then 2 else 0] (by simp)
  by_cases hE : firstE [drvE l start m, if 8 < m.length then 2 else 0] = 0
  · have hrnd : rndE l start m = if (bestR l start m).2 < 0 then 8 else 0 := by unfold rndE; rw [if_neg (by omega)]
    have hd : drvE l start m = 0 := by simp only [firstE] at hE; grind
    obtain ⟨hl, _, _⟩ := drvE_zero hd
    rw [hE] at h105
    have h117 := z117 l hl
    have hlen := rs_len (l := l) (start := start) (m := m) m.length [] ([], -1) 100 (by simp; omega) (by simp)
    have h135 := z135n l hl start m hm
    have hbd := rs_bd hl (start := start) (m := m) m.length [] ([], -1) (by simp; omega) ⟨by simp, by simp⟩
    change (bestR l start m).1.length ≤ 100 at hlen
    change rsBd (bestR l start m) at hbd
    unfold rsBd at hbd
    unfold rndT
    rw [hrnd]
    generalize bestR l start m = st at hlen h135 hbd ⊢
    have hus : Res.le (.buf 4 1 ((m.length : Nat) : Int).toNat fun _ => [cstD (.bool false)]) (seqB 4 1 bF false (usedO m.length [])) := Res.le_buf (by simp [usedO_len]) (fun i hi => by
      have hi' : i < m.length := by simpa [usedO_len] using hi
      simp only [rowF]
      rw [usedO_get hi']; rfl)
    refine spec_of hT (C := []) Tryz.func41 rfl Tryz.call41 rfl rfl rfl ?_
    conv => whnf
    repeat' (first
      | (refine CallX.exact (h134) rfl rfl ?_; rotate_right; conv => whnf)
      | (refine CallX.exact (h107) rfl rfl ?_; rotate_right; conv => whnf)
      | (refine CallX.pure h105 ⟨SV.le_lit (by rfl) (by rfl), trivial⟩ rfl ?_; conv => whnf)
      | (refine CallX.of h117 [(3, 25)] rfl ⟨SV.le_refl _, trivial⟩ trivial rfl rfl ?_; rintro x rout ⟨rfl, rfl⟩; refine ⟨rfl, ?_⟩; conv => whnf)
      | (refine CallX.of h135 [(1000000, 32), (1000001, 30), (1000004, 25), (1000002, 901), (60, 900)] rfl ⟨SV.le_refl _, SV.le_refl _, SV.le_refl _, trivial⟩ ⟨Res.le_cellsL ⟨SV.le_refl _, SV.le_refl _, SV.le_refl _, SV.le_refl _, SV.le_refl _, SV.le_nilS, SV.le_refl _, trivial⟩, hus, Res.le_refl _, trivial⟩ rfl rfl ?_; rintro x rout ⟨rfl, nm, (rfl | rfl), rfl⟩ <;> (refine ⟨rfl, ?_⟩; conv => whnf); conv => whnf)
      | (refine br_intro (fun hb => ?_) (fun hb => ?_) <;> (try simp only [decide_eq_true_eq, decide_eq_false_iff_not, Bool.not_eq_true', Bool.not_eq_false', Bool.and_eq_true, Bool.or_eq_true, beq_iff_eq, not_and, Int.not_le, Int.not_lt, Int.toNat_natCast, beq_eq_false_iff_ne, ne_eq, eq_self, not_true_eq_false, not_false_eq_true] at hb) <;> (conv => whnf))
      | (refine RegX.rule (id := 4) hT rfl [] [(0, []), (2, [0]), (3, [0, 2]), (4, [0, 2, 3]), (5, [0, 2, 3]), (6, [0, 2, 3]), (1, [2, 3, 4, 5, 6]), (7, []), (8, []), (9, [])] (by decide +kernel) ?_; conv => whnf)
      | (refine RegX.rule (id := 8) hT rfl [] [(0, []), (1, []), (2, []), (3, []), (4, [0, 1, 2, 3]), (5, [0, 1, 2, 3]), (6, [0, 1, 2, 3]), (7, [0, 1, 2, 3]), (8, [4, 5, 6, 7]), (9, []), (10, [])] (by decide +kernel) ?_; conv => whnf)
      | omega
      | (refine And.intro ?_ ?_; ((try dsimp only); first | omega | (refine ⟨by omega, by omega, Int.le_trans (Int.mul_le_mul_of_nonneg_right (Int.ofNat_le.2 (Nat.le_of_ble_eq_true (rfl : Nat.ble _ 1024 = true))) (by omega)) (by omega), by omega⟩) | (refine Nat.le_trans (Nat.mul_le_mul_left _ (Nat.le_of_ble_eq_true (rfl : Nat.ble _ 1024 = true))) ?_; omega) | (unfold inI64; omega) | (constructor <;> omega) | (simp only [inI64, List.length_cons, List.length_append, List.length_nil, List.length_set] at *; omega) | decide | (unfold inI64; decide)); conv => whnf)
      | omega | decide | assumption)
    all_goals first
      | (rw [if_neg (by rw [if_pos (by omega)]; decide), if_pos (by omega)]
         refine .ret _ ?_
         conv => whnf
         exact ⟨[], ⟨rfl, rfl⟩, trivial⟩)
      | (rw [if_pos (by rw [if_neg (by omega)])]
         refine .ret _ ?_
         conv => whnf
         exact ⟨[], ⟨rfl, rfl⟩, trivial⟩)
  · have hrc : rndE l start m = firstE [drvE l start m, if 8 < m.length then 2 else 0] := by unfold rndE; rw [if_pos hE]
    unfold rndT
    rw [hrc]
    generalize firstE [drvE l start m, if 8 < m.length then 2 else 0] = e at h105 hE
    rw [if_neg hE]
    refine spec_of hT (C := []) Tryz.func41 rfl Tryz.call41 rfl rfl rfl ?_
    conv => whnf
    repeat' (first
      | (refine CallX.exact (h134) rfl rfl ?_; rotate_right; conv => whnf)
      | (refine CallX.exact (h107) rfl rfl ?_; rotate_right; conv => whnf)
      | (refine CallX.pure h105 ⟨SV.le_lit (by rfl) (by rfl), trivial⟩ rfl ?_; conv => whnf)
      | (refine br_intro (fun hb => ?_) (fun hb => ?_) <;> (try simp only [decide_eq_true_eq, decide_eq_false_iff_not, Bool.not_eq_true', Bool.not_eq_false', Bool.and_eq_true, Bool.or_eq_true, beq_iff_eq, not_and, Int.not_le, Int.not_lt, Int.toNat_natCast, beq_eq_false_iff_ne, ne_eq, eq_self, not_true_eq_false, not_false_eq_true] at hb) <;> (conv => whnf))
      | (refine RegX.rule (id := 4) hT rfl [] [(0, []), (2, [0]), (3, [0, 2]), (4, [0, 2, 3]), (5, [0, 2, 3]), (6, [0, 2, 3]), (1, [2, 3, 4, 5, 6]), (7, []), (8, []), (9, [])] (by decide +kernel) ?_; conv => whnf)
      | (refine RegX.rule (id := 8) hT rfl [] [(0, []), (1, []), (2, []), (3, []), (4, [0, 1, 2, 3]), (5, [0, 1, 2, 3]), (6, [0, 1, 2, 3]), (7, [0, 1, 2, 3]), (8, [4, 5, 6, 7]), (9, []), (10, [])] (by decide +kernel) ?_; conv => whnf)
      | omega
      | (refine And.intro ?_ ?_; ((try dsimp only); first | omega | (refine ⟨by omega, by omega, Int.le_trans (Int.mul_le_mul_of_nonneg_right (Int.ofNat_le.2 (Nat.le_of_ble_eq_true (rfl : Nat.ble _ 1024 = true))) (by omega)) (by omega), by omega⟩) | (refine Nat.le_trans (Nat.mul_le_mul_left _ (Nat.le_of_ble_eq_true (rfl : Nat.ble _ 1024 = true))) ?_; omega) | (unfold inI64; omega) | (constructor <;> omega) | (simp only [inI64, List.length_cons, List.length_append, List.length_nil, List.length_set] at *; omega) | decide | (unfold inI64; decide)); conv => whnf)
      | omega | decide | assumption)
    refine .ret _ ?_
    conv => whnf
    refine ⟨[], ⟨congrArg SV.tup ?_, rfl⟩, trivial⟩
    repeat' (refine cons_eq ?_ ?_)
    all_goals (conv => lhs; whnf)
    all_goals try (with_reducible rfl)
    all_goals rfl
end Go.Proofs.YtnkdlkgannnfhaaGreatDoor
set_option maxRecDepth 20000
namespace Go.Proofs.YtnkdlkgannnfhaaGreatDoor
open Go Go.Eng
abbrev tryP : List SV := [.ptr 1000001 0, .ptr 1000002 0, .ptr 1000003 0, .ptr 1000004 0, .ptr 1000005 0, .ptr 1000006 0, .ptr 1000007 0]
/-- What the reference's search has: the best order so far, its cost, and whether there is one. -/
def trS (l : List Roa) (start : List UInt8) (m : List Mov) (f : Bool) (v : Int) (b : List Int) : List (Nat × Res) :=
  [(1000001, .cells 30 [.d (movs m)]), (1000002, .cells 28 [.d (roas l)]), (1000003, .cells 9 [.d (.str start)]), (1000004, .cells 4 [.d (.bool f)]), (1000005, .cells 3 [.d (.int .i64 v)]), (1000006, .cells 22 [.d (ints b)]), (1000007, .cells 206 [.fn 138 tryP])]
def trT (l : List Roa) (start : List UInt8) (m : List Mov) (st : RSt) : List (Nat × Res) := trS l start m (decide (0 ≤ st.2)) (if 0 ≤ st.2 then st.2 else 0) st.1
theorem trT_yes {l : List Roa} {start : List UInt8} {m : List Mov} {st : RSt} (h : 0 ≤ st.2) : trT l start m st = trS l start m true st.2 st.1 := by unfold trT; rw [decide_eq_true h, if_pos h]
theorem trT_no {l : List Roa} {start : List UInt8} {m : List Mov} {st : RSt} (h : ¬ 0 ≤ st.2) : trT l start m st = trS l start m false 0 st.1 := by unfold trT; rw [decide_eq_false h, if_neg h]
-- BestRound$1, an order that has all
set_option maxHeartbeats 4000000 in
theorem z138z (l : List Roa) (hl : rdsE l = 0) (start : List UInt8) (m : List Mov) (hm : m.length ≤ 100) (o : List Int) (ho : ordOk m.length o) (hol : o.length = m.length) (st : RSt) :
    FSpec Tryz.prog 138 ([.d (ints o)] ++ tryP) (trT l start m st) (fun y r => y = .tup [] ∧ r = trT l start m (rs l start m 0 o st)) := by
  have h58 := z58 l hl start m (by omega) o ho (by omega)
  have h139 := z139f o (by omega)
  rw [rs]
  have hnn := fun v (h : roundO l start m o = some v) => roundO_nn hl h
  generalize roundO l start m o = R at h58 hnn
  by_cases hs : 0 ≤ st.2
  · rw [trT_yes hs]
    cases R with
    | none =>
      simp only
      rw [trT_yes hs]
      refine spec_of hT (C := []) Tryz.func138 rfl Tryz.call138 rfl rfl rfl ?_
      conv => whnf
      repeat' (first
        | (refine CallX.of h58 [] rfl ⟨SV.le_refl _, SV.le_refl _, SV.le_refl _, SV.le_refl _, trivial⟩ trivial rfl rfl ?_; rintro x rout ⟨⟨v, rfl, hv⟩, rfl⟩; refine ⟨rfl, ?_⟩; conv => whnf)
        | (refine CallX.exact (h139) rfl rfl ?_; rotate_right; conv => whnf)
        | (refine br_intro (fun hb => ?_) (fun hb => ?_) <;> (try simp only [decide_eq_true_eq, decide_eq_false_iff_not, Bool.not_eq_true', Bool.not_eq_false', Bool.and_eq_true, Bool.or_eq_true, beq_iff_eq, not_and, Int.not_le, Int.not_lt, Int.toNat_natCast, beq_eq_false_iff_ne, ne_eq, eq_self, not_true_eq_false, not_false_eq_true] at hb) <;> (conv => whnf))
        | (refine RegX.rule (id := 8) hT rfl [] [(0, []), (1, [0]), (3, [0, 1]), (4, [0, 1]), (2, [0, 3, 4]), (5, [0]), (6, [])] (by decide +kernel) ?_; conv => whnf)
        | omega
        | (refine And.intro ?_ ?_; ((try dsimp only); first | omega | (refine ⟨by omega, by omega, Int.le_trans (Int.mul_le_mul_of_nonneg_right (Int.ofNat_le.2 (Nat.le_of_ble_eq_true (rfl : Nat.ble _ 1024 = true))) (by omega)) (by omega), by omega⟩) | (refine Nat.le_trans (Nat.mul_le_mul_left _ (Nat.le_of_ble_eq_true (rfl : Nat.ble _ 1024 = true))) ?_; omega) | (unfold inI64; omega) | (constructor <;> omega) | (simp only [inI64, List.length_cons, List.length_append, List.length_nil, List.length_set] at *; omega) | decide | (unfold inI64; decide)); conv => whnf)
        | omega | decide | assumption)
      all_goals first
        | (exfalso; omega)
        | (skip
           (refine .ret _ ?_
            conv => whnf
            exact ⟨_, ⟨rfl, rfl⟩, Res.le_refl _, Res.le_refl _, Res.le_refl _, Res.le_refl _, Res.le_refl _, Res.le_refl _, Res.le_refl _, trivial⟩))
    | some n =>
      have hn := hnn n rfl
      simp only
      by_cases hc : st.2 ≤ n
      · rw [if_pos ⟨hs, hc⟩, trT_yes hs]
        refine spec_of hT (C := []) Tryz.func138 rfl Tryz.call138 rfl rfl rfl ?_
        conv => whnf
        repeat' (first
          | (refine CallX.of h58 [] rfl ⟨SV.le_refl _, SV.le_refl _, SV.le_refl _, SV.le_refl _, trivial⟩ trivial rfl rfl ?_; rintro x rout ⟨⟨v, rfl, hv⟩, rfl⟩; obtain rfl := hv n rfl; refine ⟨rfl, ?_⟩; conv => whnf)
          | (refine CallX.exact (h139) rfl rfl ?_; rotate_right; conv => whnf)
          | (refine br_intro (fun hb => ?_) (fun hb => ?_) <;> (try simp only [decide_eq_true_eq, decide_eq_false_iff_not, Bool.not_eq_true', Bool.not_eq_false', Bool.and_eq_true, Bool.or_eq_true, beq_iff_eq, not_and, Int.not_le, Int.not_lt, Int.toNat_natCast, beq_eq_false_iff_ne, ne_eq, eq_self, not_true_eq_false, not_false_eq_true] at hb) <;> (conv => whnf))
          | (refine RegX.rule (id := 8) hT rfl [] [(0, []), (1, [0]), (3, [0, 1]), (4, [0, 1]), (2, [0, 3, 4]), (5, [0]), (6, [])] (by decide +kernel) ?_; conv => whnf)
          | omega
          | (refine And.intro ?_ ?_; ((try dsimp only); first | omega | (refine ⟨by omega, by omega, Int.le_trans (Int.mul_le_mul_of_nonneg_right (Int.ofNat_le.2 (Nat.le_of_ble_eq_true (rfl : Nat.ble _ 1024 = true))) (by omega)) (by omega), by omega⟩) | (refine Nat.le_trans (Nat.mul_le_mul_left _ (Nat.le_of_ble_eq_true (rfl : Nat.ble _ 1024 = true))) ?_; omega) | (unfold inI64; omega) | (constructor <;> omega) | (simp only [inI64, List.length_cons, List.length_append, List.length_nil, List.length_set] at *; omega) | decide | (unfold inI64; decide)); conv => whnf)
          | omega | decide | assumption)
        all_goals first
          | (exfalso; omega)
          | (skip
             (refine .ret _ ?_
              conv => whnf
              exact ⟨_, ⟨rfl, rfl⟩, Res.le_refl _, Res.le_refl _, Res.le_refl _, Res.le_refl _, Res.le_refl _, Res.le_refl _, Res.le_refl _, trivial⟩))
      · rw [if_neg (by omega), trT_yes (show 0 ≤ ((o, n) : RSt).2 from hn)]
        refine spec_of hT (C := []) Tryz.func138 rfl Tryz.call138 rfl rfl rfl ?_
        conv => whnf
        repeat' (first
          | (refine CallX.of h58 [] rfl ⟨SV.le_refl _, SV.le_refl _, SV.le_refl _, SV.le_refl _, trivial⟩ trivial rfl rfl ?_; rintro x rout ⟨⟨v, rfl, hv⟩, rfl⟩; obtain rfl := hv n rfl; refine ⟨rfl, ?_⟩; conv => whnf)
          | (refine CallX.exact (h139) rfl rfl ?_; rotate_right; conv => whnf)
          | (refine br_intro (fun hb => ?_) (fun hb => ?_) <;> (try simp only [decide_eq_true_eq, decide_eq_false_iff_not, Bool.not_eq_true', Bool.not_eq_false', Bool.and_eq_true, Bool.or_eq_true, beq_iff_eq, not_and, Int.not_le, Int.not_lt, Int.toNat_natCast, beq_eq_false_iff_ne, ne_eq, eq_self, not_true_eq_false, not_false_eq_true] at hb) <;> (conv => whnf))
          | (refine RegX.rule (id := 8) hT rfl [] [(0, []), (1, [0]), (3, [0, 1]), (4, [0, 1]), (2, [0, 3, 4]), (5, [0]), (6, [])] (by decide +kernel) ?_; conv => whnf)
          | omega
          | (refine And.intro ?_ ?_; ((try dsimp only); first | omega | (refine ⟨by omega, by omega, Int.le_trans (Int.mul_le_mul_of_nonneg_right (Int.ofNat_le.2 (Nat.le_of_ble_eq_true (rfl : Nat.ble _ 1024 = true))) (by omega)) (by omega), by omega⟩) | (refine Nat.le_trans (Nat.mul_le_mul_left _ (Nat.le_of_ble_eq_true (rfl : Nat.ble _ 1024 = true))) ?_; omega) | (unfold inI64; omega) | (constructor <;> omega) | (simp only [inI64, List.length_cons, List.length_append, List.length_nil, List.length_set] at *; omega) | decide | (unfold inI64; decide)); conv => whnf)
          | omega | decide | assumption)
        all_goals first
          | (exfalso; omega)
          | (skip
             (refine .ret _ ?_
              conv => whnf
              exact ⟨_, ⟨rfl, rfl⟩, Res.le_refl _, Res.le_refl _, Res.le_refl _, Res.le_refl _, Res.le_refl _, Res.le_refl _, Res.le_refl _, trivial⟩))
  · rw [trT_no hs]
    cases R with
    | none =>
      simp only
      rw [trT_no hs]
      refine spec_of hT (C := []) Tryz.func138 rfl Tryz.call138 rfl rfl rfl ?_
      conv => whnf
      repeat' (first
        | (refine CallX.of h58 [] rfl ⟨SV.le_refl _, SV.le_refl _, SV.le_refl _, SV.le_refl _, trivial⟩ trivial rfl rfl ?_; rintro x rout ⟨⟨v, rfl, hv⟩, rfl⟩; refine ⟨rfl, ?_⟩; conv => whnf)
        | (refine CallX.exact (h139) rfl rfl ?_; rotate_right; conv => whnf)
        | (refine br_intro (fun hb => ?_) (fun hb => ?_) <;> (try simp only [decide_eq_true_eq, decide_eq_false_iff_not, Bool.not_eq_true', Bool.not_eq_false', Bool.and_eq_true, Bool.or_eq_true, beq_iff_eq, not_and, Int.not_le, Int.not_lt, Int.toNat_natCast, beq_eq_false_iff_ne, ne_eq, eq_self, not_true_eq_false, not_false_eq_true] at hb) <;> (conv => whnf))
        | (refine RegX.rule (id := 8) hT rfl [] [(0, []), (1, [0]), (3, [0, 1]), (4, [0, 1]), (2, [0, 3, 4]), (5, [0]), (6, [])] (by decide +kernel) ?_; conv => whnf)
        | omega
        | (refine And.intro ?_ ?_; ((try dsimp only); first | omega | (refine ⟨by omega, by omega, Int.le_trans (Int.mul_le_mul_of_nonneg_right (Int.ofNat_le.2 (Nat.le_of_ble_eq_true (rfl : Nat.ble _ 1024 = true))) (by omega)) (by omega), by omega⟩) | (refine Nat.le_trans (Nat.mul_le_mul_left _ (Nat.le_of_ble_eq_true (rfl : Nat.ble _ 1024 = true))) ?_; omega) | (unfold inI64; omega) | (constructor <;> omega) | (simp only [inI64, List.length_cons, List.length_append, List.length_nil, List.length_set] at *; omega) | decide | (unfold inI64; decide)); conv => whnf)
        | omega | decide | assumption)
      all_goals first
        | (exfalso; omega)
        | (skip
           (refine .ret _ ?_
            conv => whnf
            exact ⟨_, ⟨rfl, rfl⟩, Res.le_refl _, Res.le_refl _, Res.le_refl _, Res.le_refl _, Res.le_refl _, Res.le_refl _, Res.le_refl _, trivial⟩))
    | some n =>
      have hn := hnn n rfl
      simp only
      rw [if_neg (by omega), trT_yes (show 0 ≤ ((o, n) : RSt).2 from hn)]
      refine spec_of hT (C := []) Tryz.func138 rfl Tryz.call138 rfl rfl rfl ?_
      conv => whnf
      repeat' (first
        | (refine CallX.of h58 [] rfl ⟨SV.le_refl _, SV.le_refl _, SV.le_refl _, SV.le_refl _, trivial⟩ trivial rfl rfl ?_; rintro x rout ⟨⟨v, rfl, hv⟩, rfl⟩; obtain rfl := hv n rfl; refine ⟨rfl, ?_⟩; conv => whnf)
        | (refine CallX.exact (h139) rfl rfl ?_; rotate_right; conv => whnf)
        | (refine br_intro (fun hb => ?_) (fun hb => ?_) <;> (try simp only [decide_eq_true_eq, decide_eq_false_iff_not, Bool.not_eq_true', Bool.not_eq_false', Bool.and_eq_true, Bool.or_eq_true, beq_iff_eq, not_and, Int.not_le, Int.not_lt, Int.toNat_natCast, beq_eq_false_iff_ne, ne_eq, eq_self, not_true_eq_false, not_false_eq_true] at hb) <;> (conv => whnf))
        | (refine RegX.rule (id := 8) hT rfl [] [(0, []), (1, [0]), (3, [0, 1]), (4, [0, 1]), (2, [0, 3, 4]), (5, [0]), (6, [])] (by decide +kernel) ?_; conv => whnf)
        | omega
        | (refine And.intro ?_ ?_; ((try dsimp only); first | omega | (refine ⟨by omega, by omega, Int.le_trans (Int.mul_le_mul_of_nonneg_right (Int.ofNat_le.2 (Nat.le_of_ble_eq_true (rfl : Nat.ble _ 1024 = true))) (by omega)) (by omega), by omega⟩) | (refine Nat.le_trans (Nat.mul_le_mul_left _ (Nat.le_of_ble_eq_true (rfl : Nat.ble _ 1024 = true))) ?_; omega) | (unfold inI64; omega) | (constructor <;> omega) | (simp only [inI64, List.length_cons, List.length_append, List.length_nil, List.length_set] at *; omega) | decide | (unfold inI64; decide)); conv => whnf)
        | omega | decide | assumption)
      all_goals first
        | (exfalso; omega)
        | (skip
           (refine .ret _ ?_
            conv => whnf
            exact ⟨_, ⟨rfl, rfl⟩, Res.le_refl _, Res.le_refl _, Res.le_refl _, Res.le_refl _, Res.le_refl _, Res.le_refl _, Res.le_refl _, trivial⟩))
theorem ordOk_snoc {n : Nat} {o : List Int} {k : Nat} (h : ordOk n o) (hk : k < n) : ordOk n (o ++ [(k : Int)]) := fun x hx => by
  rcases List.mem_append.1 hx with q | q
  · exact h x q
  · rw [List.mem_singleton] at q; omega
-- BestRound$1
set_option maxHeartbeats 8000000 in
theorem z138 (l : List Roa) (hl : rdsE l = 0) (start : List UInt8) (m : List Mov) (hm : m.length ≤ 100) : ∀ (d : Nat) (o : List Int) (st : RSt), o.length + d = m.length → ordOk m.length o →
    FSpec Tryz.prog 138 ([.d (ints o)] ++ tryP) (trT l start m st) (fun y r => y = .tup [] ∧ r = trT l start m (rs l start m d o st)) := by
  intro d
  induction d with
  | zero => intro o st hd ho; exact z138z l hl start m hm o ho (by omega) st
  | succ d ih =>
    intro o st hd ho
    rw [rs_succ]
    refine spec_of hT (C := []) Tryz.func138 rfl Tryz.call138 rfl rfl rfl ?_
    conv => whnf
    repeat' (first
      | (refine br_intro (fun hb => ?_) (fun hb => ?_) <;> (try simp only [decide_eq_true_eq, decide_eq_false_iff_not, Bool.not_eq_true', Bool.not_eq_false', Bool.and_eq_true, Bool.or_eq_true, beq_iff_eq, not_and, Int.not_le, Int.not_lt, Int.toNat_natCast, beq_eq_false_iff_ne, ne_eq, eq_self, not_true_eq_false, not_false_eq_true] at hb) <;> (conv => whnf))
      | (refine RegX.rule (id := 8) hT rfl [] [(0, []), (1, [0]), (3, [0, 1]), (4, [0, 1]), (2, [0, 3, 4]), (5, [0]), (6, [])] (by decide +kernel) ?_; conv => whnf)
      | omega
      | (refine And.intro ?_ ?_; ((try dsimp only); first | omega | (refine ⟨by omega, by omega, Int.le_trans (Int.mul_le_mul_of_nonneg_right (Int.ofNat_le.2 (Nat.le_of_ble_eq_true (rfl : Nat.ble _ 1024 = true))) (by omega)) (by omega), by omega⟩) | (refine Nat.le_trans (Nat.mul_le_mul_left _ (Nat.le_of_ble_eq_true (rfl : Nat.ble _ 1024 = true))) ?_; omega) | (unfold inI64; omega) | (constructor <;> omega) | (simp only [inI64, List.length_cons, List.length_append, List.length_nil, List.length_set] at *; omega) | decide | (unfold inI64; decide)); conv => whnf)
      | omega | decide | assumption)
    refine LoopX.rule hT (C := []) (ι := Nat) (fun k => k ≤ m.length) (fun k => mkSt [(0, .d (ints o)), (7, .ptr 1000007 0), (39, .d (.int .i64 m.length)), (40, .d (.int .i64 k))]
      (trT l start m ((List.range k).foldl (stepS l start m d o) st))) (fun k => m.length - k) 0 (by omega) (by (refine Entails.mk' [(1000001, 1000001), (1000002, 1000002), (1000003, 1000003), (1000004, 1000004), (1000005, 1000005), (1000006, 1000006), (1000007, 1000007)] rfl rfl ?_ ?_ <;> repeat' (first | exact True.intro | exact SV.le_refl _ | exact Res.le_refl _ | exact SV.le_int (by omega) | exact SV.le_any _ | refine And.intro ?_ ?_)); done) ?_
    rintro k p1
    have e1 : (k : Int).toNat = k := Int.toNat_natCast k
    have hstep := foldS_ok (l := l) (start := start) (m := m) (d := d) (o := o) (st := st) k
    obtain ⟨t, ht⟩ : ∃ t, t = (List.range k).foldl (stepS l start m d o) st := ⟨_, rfl⟩
    rw [← ht] at hstep ⊢
    have h57 := z57 o (by omega) (k : Int)
    have h139 := z139r o (by omega)
    by_cases hk : k < m.length
    · have ihm := ih (o ++ [(k : Int)]) t (by simp; omega) (ordOk_snoc ho hk)
      have hst2 : stepS l start m d o t k = if o.contains (k : Int) then t else rs l start m d (o ++ [(k : Int)]) t := rfl
      rw [hst2] at hstep
      generalize o.contains (k : Int) = C at h57 hstep
      generalize rs l start m d (o ++ [(k : Int)]) t = t2 at ihm hstep
      obtain ⟨p, hp⟩ : ∃ p, p = o ++ [(k : Int)] := ⟨_, rfl⟩
      rw [← hp] at ihm
      cases C with
      | true =>
        conv => whnf
        repeat' (first
          | (refine CallX.exact (h57) rfl rfl ?_; rotate_right; conv => whnf)
          | (refine br_intro (fun hb => ?_) (fun hb => ?_) <;> (try simp only [decide_eq_true_eq, decide_eq_false_iff_not, Bool.not_eq_true', Bool.not_eq_false', Bool.and_eq_true, Bool.or_eq_true, beq_iff_eq, not_and, Int.not_le, Int.not_lt, Int.toNat_natCast, beq_eq_false_iff_ne, ne_eq, eq_self, not_true_eq_false, not_false_eq_true] at hb) <;> (conv => whnf))
          | (refine RegX.rule (id := 8) hT rfl [] [(0, []), (1, [0]), (3, [0, 1]), (4, [0, 1]), (2, [0, 3, 4]), (5, [0]), (6, [])] (by decide +kernel) ?_; conv => whnf)
          | omega
          | (refine And.intro ?_ ?_; ((try dsimp only); first | omega | (refine ⟨by omega, by omega, Int.le_trans (Int.mul_le_mul_of_nonneg_right (Int.ofNat_le.2 (Nat.le_of_ble_eq_true (rfl : Nat.ble _ 1024 = true))) (by omega)) (by omega), by omega⟩) | (refine Nat.le_trans (Nat.mul_le_mul_left _ (Nat.le_of_ble_eq_true (rfl : Nat.ble _ 1024 = true))) ?_; omega) | (unfold inI64; omega) | (constructor <;> omega) | (simp only [inI64, List.length_cons, List.length_append, List.length_nil, List.length_set] at *; omega) | decide | (unfold inI64; decide)); conv => whnf)
          | omega | decide | assumption)
        refine ⟨k + 1, by omega, by omega, ?_⟩
        rw [hstep, if_pos (show true = true from rfl)]
        exact (by (refine Entails.mk' [(1000001, 1000001), (1000002, 1000002), (1000003, 1000003), (1000004, 1000004), (1000005, 1000005), (1000006, 1000006), (1000007, 1000007)] rfl rfl ?_ ?_ <;> repeat' (first | exact True.intro | exact SV.le_refl _ | exact Res.le_refl _ | exact SV.le_int (by omega) | exact SV.le_any _ | refine And.intro ?_ ?_)); done)
      | false =>
        conv => whnf
        repeat' (first
          | (refine CallX.exact (h57) rfl rfl ?_; rotate_right; conv => whnf)
          | (refine CallX.of h139 [(7, 49)] rfl ⟨SV.le_refl _, trivial⟩ trivial rfl rfl ?_; rintro x rout (⟨rfl, hl0, rfl⟩ | ⟨rfl, rfl⟩) <;> (refine ⟨rfl, ?_⟩; conv => whnf); conv => whnf)
          | (refine CallX.freeze _ _ _ _ 52 3 1 _ _ rfl rfl ?_; refine CallX.of ihm [(1000001, 1000001), (1000002, 1000002), (1000003, 1000003), (1000004, 1000004), (1000005, 1000005), (1000006, 1000006), (1000007, 1000007)] rfl ⟨(by rw [hp]; first | exact SV.le_snocF rfl | (rw [hl0]; exact SV.le_lit rfl rfl)), SV.le_refl _, SV.le_refl _, SV.le_refl _, SV.le_refl _, SV.le_refl _, SV.le_refl _, SV.le_refl _, trivial⟩ ⟨Res.le_refl _, Res.le_refl _, Res.le_refl _, Res.le_refl _, Res.le_refl _, Res.le_refl _, Res.le_refl _, trivial⟩ rfl rfl ?_; rintro x rout ⟨rfl, rfl⟩; refine ⟨rfl, ?_⟩; conv => whnf)
          | (refine br_intro (fun hb => ?_) (fun hb => ?_) <;> (try simp only [decide_eq_true_eq, decide_eq_false_iff_not, Bool.not_eq_true', Bool.not_eq_false', Bool.and_eq_true, Bool.or_eq_true, beq_iff_eq, not_and, Int.not_le, Int.not_lt, Int.toNat_natCast, beq_eq_false_iff_ne, ne_eq, eq_self, not_true_eq_false, not_false_eq_true] at hb) <;> (conv => whnf))
          | (refine RegX.rule (id := 8) hT rfl [] [(0, []), (1, [0]), (3, [0, 1]), (4, [0, 1]), (2, [0, 3, 4]), (5, [0]), (6, [])] (by decide +kernel) ?_; conv => whnf)
          | omega
          | (refine And.intro ?_ ?_; ((try dsimp only); first | omega | (refine ⟨by omega, by omega, Int.le_trans (Int.mul_le_mul_of_nonneg_right (Int.ofNat_le.2 (Nat.le_of_ble_eq_true (rfl : Nat.ble _ 1024 = true))) (by omega)) (by omega), by omega⟩) | (refine Nat.le_trans (Nat.mul_le_mul_left _ (Nat.le_of_ble_eq_true (rfl : Nat.ble _ 1024 = true))) ?_; omega) | (unfold inI64; omega) | (constructor <;> omega) | (simp only [inI64, List.length_cons, List.length_append, List.length_nil, List.length_set] at *; omega) | decide | (unfold inI64; decide)); conv => whnf)
          | omega | decide | assumption)
        all_goals
          refine ⟨k + 1, by omega, by omega, ?_⟩
          rw [hstep, if_neg (show ¬ (false = true) by decide)]
          exact (by (refine Entails.mk' [(1000001, 1000001), (1000002, 1000002), (1000003, 1000003), (1000004, 1000004), (1000005, 1000005), (1000006, 1000006), (1000007, 1000007)] rfl rfl ?_ ?_ <;> repeat' (first | exact True.intro | exact SV.le_refl _ | exact Res.le_refl _ | exact SV.le_int (by omega) | exact SV.le_any _ | refine And.intro ?_ ?_)); done)
    · obtain rfl : k = m.length := by omega
      rw [← ht]
      conv => whnf
      repeat' (first
        | (refine br_intro (fun hb => ?_) (fun hb => ?_) <;> (try simp only [decide_eq_true_eq, decide_eq_false_iff_not, Bool.not_eq_true', Bool.not_eq_false', Bool.and_eq_true, Bool.or_eq_true, beq_iff_eq, not_and, Int.not_le, Int.not_lt, Int.toNat_natCast, beq_eq_false_iff_ne, ne_eq, eq_self, not_true_eq_false, not_false_eq_true] at hb) <;> (conv => whnf))
        | (refine RegX.rule (id := 8) hT rfl [] [(0, []), (1, [0]), (3, [0, 1]), (4, [0, 1]), (2, [0, 3, 4]), (5, [0]), (6, [])] (by decide +kernel) ?_; conv => whnf)
        | omega
        | (refine And.intro ?_ ?_; ((try dsimp only); first | omega | (refine ⟨by omega, by omega, Int.le_trans (Int.mul_le_mul_of_nonneg_right (Int.ofNat_le.2 (Nat.le_of_ble_eq_true (rfl : Nat.ble _ 1024 = true))) (by omega)) (by omega), by omega⟩) | (refine Nat.le_trans (Nat.mul_le_mul_left _ (Nat.le_of_ble_eq_true (rfl : Nat.ble _ 1024 = true))) ?_; omega) | (unfold inI64; omega) | (constructor <;> omega) | (simp only [inI64, List.length_cons, List.length_append, List.length_nil, List.length_set] at *; omega) | decide | (unfold inI64; decide)); conv => whnf)
        | omega | decide | assumption)
      (refine .ret _ ?_
       conv => whnf
       exact ⟨_, ⟨rfl, rfl⟩, Res.le_refl _, Res.le_refl _, Res.le_refl _, Res.le_refl _, Res.le_refl _, Res.le_refl _, Res.le_refl _, trivial⟩)
-- BestRound
set_option maxHeartbeats 4000000 in
theorem z44 (l : List Roa) (hl : rdsE l = 0) (start : List UInt8) (m : List Mov) (hm : m.length ≤ 100) :
    FSpec Tryz.prog 44 [.d (roas l), .d (.str start), .d (movs m)] [] (fun y r => y = .tup [.d (ints (bestR l start m).1), .d (.int .i64 (if 0 ≤ (bestR l start m).2 then (bestR l start m).2 else 0)), .d (.bool (decide (0 ≤ (bestR l start m).2)))] ∧ r = []) := by
  have h138 := z138 l hl start m hm m.length [] ([], -1) (by simp) (fun x hx => by cases hx)
  rw [trT_no (by simp)] at h138
  change FSpec Tryz.prog 138 _ _ (fun y r => y = .tup [] ∧ r = trT l start m (bestR l start m)) at h138
  unfold trT at h138
  generalize bestR l start m = st at h138 ⊢
  generalize decide (0 ≤ st.2) = F at h138 ⊢
  generalize (if 0 ≤ st.2 then st.2 else 0) = V at h138 ⊢
  refine spec_of hT (C := []) Tryz.func44 rfl Tryz.call44 rfl rfl rfl ?_
  conv => whnf
  repeat' (first
    | (refine CallX.of h138 [(1000001, 5), (1000002, 3), (1000003, 4), (1000004, 11), (1000005, 10), (1000006, 9), (1000007, 12)] rfl ⟨SV.le_nilS, SV.le_refl _, SV.le_refl _, SV.le_refl _, SV.le_refl _, SV.le_refl _, SV.le_refl _, SV.le_refl _, trivial⟩ ⟨Res.le_refl _, Res.le_refl _, Res.le_refl _, Res.le_refl _, Res.le_refl _, Res.le_cellsL ⟨SV.le_nilS, trivial⟩, Res.le_refl _, trivial⟩ rfl rfl ?_; rintro x rout ⟨rfl, rfl⟩; refine ⟨rfl, ?_⟩; conv => whnf)
    | (refine br_intro (fun hb => ?_) (fun hb => ?_) <;> (try simp only [decide_eq_true_eq, decide_eq_false_iff_not, Bool.not_eq_true', Bool.not_eq_false', Bool.and_eq_true, Bool.or_eq_true, beq_iff_eq, not_and, Int.not_le, Int.not_lt, Int.toNat_natCast, beq_eq_false_iff_ne, ne_eq, eq_self, not_true_eq_false, not_false_eq_true] at hb) <;> (conv => whnf))
    | (refine RegX.rule (id := 6) hT rfl [] [(0, []), (1, [0]), (2, [0, 1]), (3, [1, 2]), (4, [2]), (5, [])] (by decide +kernel) ?_; conv => whnf)
    | omega
    | (refine And.intro ?_ ?_; ((try dsimp only); first | omega | (refine ⟨by omega, by omega, Int.le_trans (Int.mul_le_mul_of_nonneg_right (Int.ofNat_le.2 (Nat.le_of_ble_eq_true (rfl : Nat.ble _ 1024 = true))) (by omega)) (by omega), by omega⟩) | (refine Nat.le_trans (Nat.mul_le_mul_left _ (Nat.le_of_ble_eq_true (rfl : Nat.ble _ 1024 = true))) ?_; omega) | (unfold inI64; omega) | (constructor <;> omega) | (simp only [inI64, List.length_cons, List.length_append, List.length_nil, List.length_set] at *; omega) | decide | (unfold inI64; decide)); conv => whnf)
    | omega | decide | assumption)
  refine .ret _ ?_
  conv => whnf
  exact ⟨[], ⟨rfl, rfl⟩, trivial⟩
end Go.Proofs.YtnkdlkgannnfhaaGreatDoor
set_option maxRecDepth 20000
namespace Go.Proofs.YtnkdlkgannnfhaaGreatDoor
open Go Go.Eng
end Go.Proofs.YtnkdlkgannnfhaaGreatDoor
set_option maxRecDepth 20000
namespace Go.Proofs.YtnkdlkgannnfhaaGreatDoor
open Go Go.Eng
abbrev mvB (l : List Mov) : Res := seqB 66 3 mvF mv0 l
-- insertion sort: the same elements
theorem z249 (g : FuncId) (cmp : Mov → Mov → Int) (l : List Mov) (hl : l.length ≤ 2^40)
    (hcmp : ∀ p q, p ∈ l → q ∈ l → FSpec Tryz.prog g [.agg ((mvF p).map .d), .agg ((mvF q).map .d)] [] (fun y r => y = .d (.int .i64 (cmp p q)) ∧ r = [])) :
    FSpec Tryz.prog 249 [.buf 1000001, .d (.int .i64 0), .d (.int .i64 l.length), .fn g []] [(1000001, seqB 66 3 mvF mv0 l)]
      (fun y r => y = .tup [] ∧ ∃ c, sameL l c ∧ r = [(1000001, seqB 66 3 mvF mv0 c)]) := by
  refine spec_of hT (C := []) Tryz.func249 rfl Tryz.call249 rfl rfl rfl ?_
  conv => whnf
  repeat' (first
    | (refine br_intro (fun hb => ?_) (fun hb => ?_) <;> (try simp only [decide_eq_true_eq, decide_eq_false_iff_not, Bool.not_eq_true', Bool.not_eq_false', Bool.and_eq_true, Bool.or_eq_true, beq_iff_eq, not_and, Int.not_le, Int.not_lt, Int.toNat_natCast, beq_eq_false_iff_ne, ne_eq, eq_self, not_true_eq_false, not_false_eq_true] at hb) <;> (conv => whnf))
    | (refine RegX.rule (id := 4) hT rfl [] [(0, []), (1, [0]), (2, []), (3, []), (4, []), (5, [4]), (6, [4, 5]), (7, [4]), (8, [4]), (9, [4, 5, 6, 7, 8]), (10, [4, 5, 6, 7, 8, 9]), (11, [4, 5, 6, 7, 8, 9]), (12, [4, 5, 6, 7, 8]), (13, [4, 5, 6, 7, 8]), (14, []), (15, []), (16, [])] (by decide +kernel) ?_; conv => whnf)
    | (refine RegX.rule (id := 6) hT rfl [] [(0, []), (1, [0]), (2, [0, 1]), (3, [0, 1, 2]), (4, [0, 1, 2]), (5, [0, 1, 2, 3, 4]), (6, [0, 1, 2, 3, 4, 5]), (7, [0, 1, 2, 3, 4, 5]), (8, [0, 1, 2, 3, 4]), (9, [0, 1, 2, 3, 4]), (10, [0, 1, 2, 3, 4, 5, 6, 7, 8, 9]), (11, [0, 1, 2, 3, 4, 5, 6, 7, 8, 9, 10]), (12, [0, 1, 2, 3, 4, 5, 6, 7, 8, 9]), (13, [0, 1, 2, 3, 4, 5, 6, 7, 8, 9]), (14, [2, 3, 4]), (15, [2, 3, 4]), (16, []), (17, [])] (by decide +kernel) ?_; conv => whnf)
    | omega
    | (refine And.intro ?_ ?_; ((try dsimp only); first | omega | (refine ⟨by omega, by omega, Int.le_trans (Int.mul_le_mul_of_nonneg_right (Int.ofNat_le.2 (Nat.le_of_ble_eq_true (rfl : Nat.ble _ 1024 = true))) (by omega)) (by omega), by omega⟩) | (refine Nat.le_trans (Nat.mul_le_mul_left _ (Nat.le_of_ble_eq_true (rfl : Nat.ble _ 1024 = true))) ?_; omega) | (unfold inI64; omega) | (constructor <;> omega) | (simp only [inI64, List.length_cons, List.length_append, List.length_nil, List.length_set] at *; omega) | decide | (unfold inI64; decide)); conv => whnf)
    | omega | decide | assumption)
  refine LoopX.rule hT (C := []) (ι := Nat × List Mov) (fun (i, c) => 1 ≤ i ∧ (i ≤ l.length ∨ i = 1) ∧ sameL l c)
    (fun (i, c) => mkSt [(0, .buf 1000001), (1, .d (.int .i64 0)), (2, .d (.int .i64 l.length)), (3, .fn g []), (8, .d (.int .i64 i))] [(1000001, seqB 66 3 mvF mv0 c)])
    (fun (i, _) => l.length - i) (1, l) ⟨by simp, by simp, rfl, fun x h => h⟩ (by refine Entails.mk' [(1000001, 1000001)] rfl rfl ?_ ?_ <;> repeat' (first | exact True.intro | exact SV.le_refl _ | exact Res.le_refl _ | exact SV.le_int (by omega) | exact SV.le_any _ | refine And.intro ?_ ?_)) ?_
  rintro ⟨i, c⟩ ⟨p1, p2, p3⟩
  have hc0 := p3.1
  conv => whnf
  repeat' (first
    | (refine br_intro (fun hb => ?_) (fun hb => ?_) <;> (try simp only [decide_eq_true_eq, decide_eq_false_iff_not, Bool.not_eq_true', Bool.not_eq_false', Bool.and_eq_true, Bool.or_eq_true, beq_iff_eq, not_and, Int.not_le, Int.not_lt, Int.toNat_natCast, beq_eq_false_iff_ne, ne_eq, eq_self, not_true_eq_false, not_false_eq_true] at hb) <;> (conv => whnf))
    | (refine RegX.rule (id := 4) hT rfl [] [(0, []), (1, [0]), (2, []), (3, []), (4, []), (5, [4]), (6, [4, 5]), (7, [4]), (8, [4]), (9, [4, 5, 6, 7, 8]), (10, [4, 5, 6, 7, 8, 9]), (11, [4, 5, 6, 7, 8, 9]), (12, [4, 5, 6, 7, 8]), (13, [4, 5, 6, 7, 8]), (14, []), (15, []), (16, [])] (by decide +kernel) ?_; conv => whnf)
    | (refine RegX.rule (id := 6) hT rfl [] [(0, []), (1, [0]), (2, [0, 1]), (3, [0, 1, 2]), (4, [0, 1, 2]), (5, [0, 1, 2, 3, 4]), (6, [0, 1, 2, 3, 4, 5]), (7, [0, 1, 2, 3, 4, 5]), (8, [0, 1, 2, 3, 4]), (9, [0, 1, 2, 3, 4]), (10, [0, 1, 2, 3, 4, 5, 6, 7, 8, 9]), (11, [0, 1, 2, 3, 4, 5, 6, 7, 8, 9, 10]), (12, [0, 1, 2, 3, 4, 5, 6, 7, 8, 9]), (13, [0, 1, 2, 3, 4, 5, 6, 7, 8, 9]), (14, [2, 3, 4]), (15, [2, 3, 4]), (16, []), (17, [])] (by decide +kernel) ?_; conv => whnf)
    | omega
    | (refine And.intro ?_ ?_; ((try dsimp only); first | omega | (refine ⟨by omega, by omega, Int.le_trans (Int.mul_le_mul_of_nonneg_right (Int.ofNat_le.2 (Nat.le_of_ble_eq_true (rfl : Nat.ble _ 1024 = true))) (by omega)) (by omega), by omega⟩) | (refine Nat.le_trans (Nat.mul_le_mul_left _ (Nat.le_of_ble_eq_true (rfl : Nat.ble _ 1024 = true))) ?_; omega) | (unfold inI64; omega) | (constructor <;> omega) | (simp only [inI64, List.length_cons, List.length_append, List.length_nil, List.length_set] at *; omega) | decide | (unfold inI64; decide)); conv => whnf)
    | omega | decide | assumption)
  · refine LoopX.rule hT (C := []) (ι := Nat × List Mov) (fun (j, c) => j ≤ i ∧ sameL l c)
      (fun (j, c) => mkSt [(0, .buf 1000001), (1, .d (.int .i64 0)), (2, .d (.int .i64 l.length)), (3, .fn g []), (8, .d (.int .i64 i)), (9, .d (.int .i64 j))] [(1000001, seqB 66 3 mvF mv0 c)])
      (fun (j, _) => j) (i, c) ⟨Nat.le_refl _, p3⟩ (by refine Entails.mk' [(1000001, 1000001)] rfl rfl ?_ ?_ <;> repeat' (first | exact True.intro | exact SV.le_refl _ | exact Res.le_refl _ | exact SV.le_int (by omega) | exact SV.le_any _ | refine And.intro ?_ ?_)) ?_
    rintro ⟨j, b⟩ ⟨q1, q3⟩
    have hb0 := q3.1
    conv => whnf
    repeat' (first
      | (refine br_intro (fun hb => ?_) (fun hb => ?_) <;> (try simp only [decide_eq_true_eq, decide_eq_false_iff_not, Bool.not_eq_true', Bool.not_eq_false', Bool.and_eq_true, Bool.or_eq_true, beq_iff_eq, not_and, Int.not_le, Int.not_lt, Int.toNat_natCast, beq_eq_false_iff_ne, ne_eq, eq_self, not_true_eq_false, not_false_eq_true] at hb) <;> (conv => whnf))
      | (refine RegX.rule (id := 4) hT rfl [] [(0, []), (1, [0]), (2, []), (3, []), (4, []), (5, [4]), (6, [4, 5]), (7, [4]), (8, [4]), (9, [4, 5, 6, 7, 8]), (10, [4, 5, 6, 7, 8, 9]), (11, [4, 5, 6, 7, 8, 9]), (12, [4, 5, 6, 7, 8]), (13, [4, 5, 6, 7, 8]), (14, []), (15, []), (16, [])] (by decide +kernel) ?_; conv => whnf)
      | (refine RegX.rule (id := 6) hT rfl [] [(0, []), (1, [0]), (2, [0, 1]), (3, [0, 1, 2]), (4, [0, 1, 2]), (5, [0, 1, 2, 3, 4]), (6, [0, 1, 2, 3, 4, 5]), (7, [0, 1, 2, 3, 4, 5]), (8, [0, 1, 2, 3, 4]), (9, [0, 1, 2, 3, 4]), (10, [0, 1, 2, 3, 4, 5, 6, 7, 8, 9]), (11, [0, 1, 2, 3, 4, 5, 6, 7, 8, 9, 10]), (12, [0, 1, 2, 3, 4, 5, 6, 7, 8, 9]), (13, [0, 1, 2, 3, 4, 5, 6, 7, 8, 9]), (14, [2, 3, 4]), (15, [2, 3, 4]), (16, []), (17, [])] (by decide +kernel) ?_; conv => whnf)
      | omega
      | (refine And.intro ?_ ?_; ((try dsimp only); first | omega | (refine ⟨by omega, by omega, Int.le_trans (Int.mul_le_mul_of_nonneg_right (Int.ofNat_le.2 (Nat.le_of_ble_eq_true (rfl : Nat.ble _ 1024 = true))) (by omega)) (by omega), by omega⟩) | (refine Nat.le_trans (Nat.mul_le_mul_left _ (Nat.le_of_ble_eq_true (rfl : Nat.ble _ 1024 = true))) ?_; omega) | (unfold inI64; omega) | (constructor <;> omega) | (simp only [inI64, List.length_cons, List.length_append, List.length_nil, List.length_set] at *; omega) | decide | (unfold inI64; decide)); conv => whnf)
      | omega | decide | assumption)
    · refine CallX.of (hcmp (b.getD (j : Int).toNat mv0) (b.getD ((j : Int) - 1).toNat mv0) (q3.2 _ (getD_mem (by omega))) (q3.2 _ (getD_mem (by omega)))) [] rfl ⟨SV.le_refl _, SV.le_refl _, trivial⟩ trivial rfl rfl ?_
      rintro x rout ⟨rfl, rfl⟩
      refine ⟨rfl, ?_⟩
      conv => whnf
      repeat' (first
        | (refine br_intro (fun hb => ?_) (fun hb => ?_) <;> (try simp only [decide_eq_true_eq, decide_eq_false_iff_not, Bool.not_eq_true', Bool.not_eq_false', Bool.and_eq_true, Bool.or_eq_true, beq_iff_eq, not_and, Int.not_le, Int.not_lt, Int.toNat_natCast, beq_eq_false_iff_ne, ne_eq, eq_self, not_true_eq_false, not_false_eq_true] at hb) <;> (conv => whnf))
        | (refine RegX.rule (id := 4) hT rfl [] [(0, []), (1, [0]), (2, []), (3, []), (4, []), (5, [4]), (6, [4, 5]), (7, [4]), (8, [4]), (9, [4, 5, 6, 7, 8]), (10, [4, 5, 6, 7, 8, 9]), (11, [4, 5, 6, 7, 8, 9]), (12, [4, 5, 6, 7, 8]), (13, [4, 5, 6, 7, 8]), (14, []), (15, []), (16, [])] (by decide +kernel) ?_; conv => whnf)
        | (refine RegX.rule (id := 6) hT rfl [] [(0, []), (1, [0]), (2, [0, 1]), (3, [0, 1, 2]), (4, [0, 1, 2]), (5, [0, 1, 2, 3, 4]), (6, [0, 1, 2, 3, 4, 5]), (7, [0, 1, 2, 3, 4, 5]), (8, [0, 1, 2, 3, 4]), (9, [0, 1, 2, 3, 4]), (10, [0, 1, 2, 3, 4, 5, 6, 7, 8, 9]), (11, [0, 1, 2, 3, 4, 5, 6, 7, 8, 9, 10]), (12, [0, 1, 2, 3, 4, 5, 6, 7, 8, 9]), (13, [0, 1, 2, 3, 4, 5, 6, 7, 8, 9]), (14, [2, 3, 4]), (15, [2, 3, 4]), (16, []), (17, [])] (by decide +kernel) ?_; conv => whnf)
        | omega
        | (refine And.intro ?_ ?_; ((try dsimp only); first | omega | (refine ⟨by omega, by omega, Int.le_trans (Int.mul_le_mul_of_nonneg_right (Int.ofNat_le.2 (Nat.le_of_ble_eq_true (rfl : Nat.ble _ 1024 = true))) (by omega)) (by omega), by omega⟩) | (refine Nat.le_trans (Nat.mul_le_mul_left _ (Nat.le_of_ble_eq_true (rfl : Nat.ble _ 1024 = true))) ?_; omega) | (unfold inI64; omega) | (constructor <;> omega) | (simp only [inI64, List.length_cons, List.length_append, List.length_nil, List.length_set] at *; omega) | decide | (unfold inI64; decide)); conv => whnf)
        | omega | decide | assumption)
      · refine ⟨(j - 1, _), ⟨by omega, sameL_set (sameL_set q3 (q3.2 _ (getD_mem (i := ((j : Int) - 1).toNat) (x := mv0) (by omega)))) (q3.2 _ (getD_mem (i := (j : Int).toNat) (x := mv0) (by omega)))⟩, by show j - 1 < j; omega, Entails.mk' [(1000001, 1000001)] rfl rfl ⟨SV.le_refl _, SV.le_refl _, SV.le_refl _, SV.le_refl _, SV.le_refl _, SV.le_int (by omega), trivial⟩ ⟨Res.le_put2 (fun _ => rfl) (fun _ => rfl), trivial⟩⟩
      · exact ⟨(i + 1, b), ⟨by omega, by omega, q3⟩, by show l.length - (i + 1) < l.length - i; omega, (by refine Entails.mk' [(1000001, 1000001)] rfl rfl ?_ ?_ <;> repeat' (first | exact True.intro | exact SV.le_refl _ | exact Res.le_refl _ | exact SV.le_int (by omega) | exact SV.le_any _ | refine And.intro ?_ ?_))⟩
    · exact ⟨(i + 1, b), ⟨by omega, by omega, q3⟩, by show l.length - (i + 1) < l.length - i; omega, (by refine Entails.mk' [(1000001, 1000001)] rfl rfl ?_ ?_ <;> repeat' (first | exact True.intro | exact SV.le_refl _ | exact Res.le_refl _ | exact SV.le_int (by omega) | exact SV.le_any _ | refine And.intro ?_ ?_))⟩
  · refine .ret _ ?_
    conv => whnf
    exact ⟨_, ⟨rfl, c, p3, rfl⟩, Res.le_refl _, trivial⟩
-- slices.SortFunc of at most twelve: the same elements
theorem z200 (g : FuncId) (cmp : Mov → Mov → Int) (l : List Mov) (hl : l.length ≤ 12) (lim : Int)
    (hcmp : ∀ p q, p ∈ l → q ∈ l → FSpec Tryz.prog g [.agg ((mvF p).map .d), .agg ((mvF q).map .d)] [] (fun y r => y = .d (.int .i64 (cmp p q)) ∧ r = [])) :
    FSpec Tryz.prog 200 [.buf 1000001, .d (.int .i64 0), .d (.int .i64 l.length), .d (.int .i64 lim), .fn g []] [(1000001, seqB 66 3 mvF mv0 l)]
      (fun y r => y = .tup [] ∧ ∃ c, sameL l c ∧ r = [(1000001, seqB 66 3 mvF mv0 c)]) := by
  refine spec_of hT (C := []) Tryz.func200 rfl Tryz.call200 rfl rfl rfl ?_
  conv => whnf
  refine LoopX.unroll hT (C := []) (fun _ _ h => h) (fun _ h => h) ?_
  conv => whnf
  repeat' (first
    | (refine br_intro (fun hb => ?_) (fun hb => ?_) <;> (try simp only [decide_eq_true_eq, decide_eq_false_iff_not, Bool.not_eq_true', Bool.not_eq_false', Bool.and_eq_true, Bool.or_eq_true, beq_iff_eq, not_and, Int.not_le, Int.not_lt, Int.toNat_natCast, beq_eq_false_iff_ne, ne_eq, eq_self, not_true_eq_false, not_false_eq_true] at hb) <;> (conv => whnf))
    | (refine RegX.rule (id := 17) hT rfl [] [(0, []), (1, []), (2, []), (3, []), (4, [3]), (5, [3, 4]), (6, [3, 4]), (7, [3]), (8, [3]), (9, [3, 4, 5, 6, 7, 8]), (10, [3, 4, 5, 6, 7, 8, 9]), (11, [3, 4, 5, 6, 7, 8]), (12, [3, 4, 5, 6, 7, 8]), (13, []), (14, []), (15, []), (16, [])] (by decide +kernel) ?_; conv => whnf)
    | omega
    | (refine And.intro ?_ ?_; ((try dsimp only); first | omega | (refine ⟨by omega, by omega, Int.le_trans (Int.mul_le_mul_of_nonneg_right (Int.ofNat_le.2 (Nat.le_of_ble_eq_true (rfl : Nat.ble _ 1024 = true))) (by omega)) (by omega), by omega⟩) | (refine Nat.le_trans (Nat.mul_le_mul_left _ (Nat.le_of_ble_eq_true (rfl : Nat.ble _ 1024 = true))) ?_; omega) | (unfold inI64; omega) | (constructor <;> omega) | (simp only [inI64, List.length_cons, List.length_append, List.length_nil, List.length_set] at *; omega) | decide | (unfold inI64; decide)); conv => whnf)
    | omega | decide | assumption)
  refine CallX.of (z249 g cmp l (by omega) hcmp) [(1000001, 1000001)] rfl ⟨SV.le_refl _, SV.le_refl _, SV.le_refl _, SV.le_refl _, trivial⟩ ⟨Res.le_refl _, trivial⟩ rfl rfl ?_
  rintro x rout ⟨rfl, c, hc, rfl⟩
  refine ⟨rfl, ?_⟩
  conv => whnf
  refine .ret _ ?_
  conv => whnf
  exact ⟨_, ⟨rfl, c, hc, rfl⟩, Res.le_refl _, trivial⟩
theorem z99 (g : FuncId) (cmp : Mov → Mov → Int) (l : List Mov) (hl : l.length ≤ 12)
    (hcmp : ∀ p q, p ∈ l → q ∈ l → FSpec Tryz.prog g [.agg ((mvF p).map .d), .agg ((mvF q).map .d)] [] (fun y r => y = .d (.int .i64 (cmp p q)) ∧ r = [])) :
    FSpec Tryz.prog 99 [.buf 1000001, .fn g []] [(1000001, seqB 66 3 mvF mv0 l)]
      (fun y r => y = .tup [] ∧ ∃ c, sameL l c ∧ r = [(1000001, seqB 66 3 mvF mv0 c)]) := by
  refine spec_of hT (C := []) Tryz.func99 rfl Tryz.call99 rfl rfl rfl ?_
  conv => whnf
  repeat' (first
    | (refine br_intro (fun hb => ?_) (fun hb => ?_) <;> (try simp only [decide_eq_true_eq, decide_eq_false_iff_not, Bool.not_eq_true', Bool.not_eq_false', Bool.and_eq_true, Bool.or_eq_true, beq_iff_eq, not_and, Int.not_le, Int.not_lt, Int.toNat_natCast, beq_eq_false_iff_ne, ne_eq, eq_self, not_true_eq_false, not_false_eq_true] at hb) <;> (conv => whnf))
    | omega
    | (refine And.intro ?_ ?_; ((try dsimp only); first | omega | (refine ⟨by omega, by omega, Int.le_trans (Int.mul_le_mul_of_nonneg_right (Int.ofNat_le.2 (Nat.le_of_ble_eq_true (rfl : Nat.ble _ 1024 = true))) (by omega)) (by omega), by omega⟩) | (refine Nat.le_trans (Nat.mul_le_mul_left _ (Nat.le_of_ble_eq_true (rfl : Nat.ble _ 1024 = true))) ?_; omega) | (unfold inI64; omega) | (constructor <;> omega) | (simp only [inI64, List.length_cons, List.length_append, List.length_nil, List.length_set] at *; omega) | decide | (unfold inI64; decide)); conv => whnf)
    | omega | decide | assumption)
  refine CallX.of (sBitsLen l.length hl) [] rfl ⟨SV.le_refl _, trivial⟩ trivial rfl rfl ?_
  rintro x rout ⟨⟨lim, rfl⟩, rfl⟩
  refine ⟨rfl, ?_⟩
  conv => whnf
  repeat' (first
    | (refine br_intro (fun hb => ?_) (fun hb => ?_) <;> (try simp only [decide_eq_true_eq, decide_eq_false_iff_not, Bool.not_eq_true', Bool.not_eq_false', Bool.and_eq_true, Bool.or_eq_true, beq_iff_eq, not_and, Int.not_le, Int.not_lt, Int.toNat_natCast, beq_eq_false_iff_ne, ne_eq, eq_self, not_true_eq_false, not_false_eq_true] at hb) <;> (conv => whnf))
    | omega
    | (refine And.intro ?_ ?_; ((try dsimp only); first | omega | (refine ⟨by omega, by omega, Int.le_trans (Int.mul_le_mul_of_nonneg_right (Int.ofNat_le.2 (Nat.le_of_ble_eq_true (rfl : Nat.ble _ 1024 = true))) (by omega)) (by omega), by omega⟩) | (refine Nat.le_trans (Nat.mul_le_mul_left _ (Nat.le_of_ble_eq_true (rfl : Nat.ble _ 1024 = true))) ?_; omega) | (unfold inI64; omega) | (constructor <;> omega) | (simp only [inI64, List.length_cons, List.length_append, List.length_nil, List.length_set] at *; omega) | decide | (unfold inI64; decide)); conv => whnf)
    | omega | decide | assumption)
  refine CallX.of (z200 g cmp l hl lim hcmp) [(1000001, 1000001)] rfl ⟨SV.le_refl _, SV.le_refl _, SV.le_refl _, SV.le_refl _, SV.le_refl _, trivial⟩ ⟨Res.le_refl _, trivial⟩ rfl rfl ?_
  rintro x rout ⟨rfl, c, hc, rfl⟩
  refine ⟨rfl, ?_⟩
  conv => whnf
  refine .ret _ ?_
  conv => whnf
  exact ⟨_, ⟨rfl, c, hc, rfl⟩, Res.le_refl _, trivial⟩
-- slices.CompactFunc of moves
theorem z102 (g : FuncId) (eq : Mov → Mov → Bool) (l : List Mov) (hl : l.length ≤ 2^20)
    (heq : ∀ p q, p ∈ l → q ∈ l → FSpec Tryz.prog g [.agg ((mvF p).map .d), .agg ((mvF q).map .d)] [] (fun y r => y = .d (.bool (eq p q)) ∧ r = [])) :
    FSpec Tryz.prog 102 [.buf 1000001, .fn g []] [(1000001, seqB 66 3 mvF mv0 l)]
      (fun y r => ∃ c, subL l c ∧ ∃ d, (d = 1000001 ∨ d = 64) ∧ y = .buf d ∧ r = [(d, seqB 66 3 mvF mv0 c)]) := by
  refine spec_of hT (C := []) Tryz.func102 rfl Tryz.call102 rfl rfl rfl ?_
  conv => whnf
  repeat' (first
    | (refine br_intro (fun hb => ?_) (fun hb => ?_) <;> (try simp only [decide_eq_true_eq, decide_eq_false_iff_not, Bool.not_eq_true', Bool.not_eq_false', Bool.and_eq_true, Bool.or_eq_true, beq_iff_eq, not_and, Int.not_le, Int.not_lt, Int.toNat_natCast, beq_eq_false_iff_ne, ne_eq, eq_self, not_true_eq_false, not_false_eq_true] at hb) <;> (conv => whnf))
    | (refine RegX.rule (id := 6) hT rfl [] [(0, []), (1, [0]), (2, [0, 1]), (3, [0]), (4, [0]), (5, [0, 1, 2, 3, 4]), (6, [0, 1, 2, 3, 4, 5]), (7, [0, 1, 2, 3, 4, 5]), (8, [0, 1, 2, 3, 4]), (9, [0, 1, 2, 3, 4]), (10, [])] (by decide +kernel) ?_; conv => whnf)
    | (refine RegX.rule (id := 11) hT rfl [] [(0, []), (1, [0]), (2, [0, 1]), (3, [0]), (4, [0]), (5, [0, 1, 2, 3, 4]), (6, [0, 1, 2, 3, 4, 5]), (7, [0, 1, 2, 3, 4, 5]), (8, [0, 1, 2, 3, 4]), (9, [0, 1, 2, 3, 4]), (10, []), (11, [])] (by decide +kernel) ?_; conv => whnf)
    | omega
    | (refine And.intro ?_ ?_; ((try dsimp only); first | omega | (refine ⟨by omega, by omega, Int.le_trans (Int.mul_le_mul_of_nonneg_right (Int.ofNat_le.2 (Nat.le_of_ble_eq_true (rfl : Nat.ble _ 1024 = true))) (by omega)) (by omega), by omega⟩) | (refine Nat.le_trans (Nat.mul_le_mul_left _ (Nat.le_of_ble_eq_true (rfl : Nat.ble _ 1024 = true))) ?_; omega) | (unfold inI64; omega) | (constructor <;> omega) | (simp only [inI64, List.length_cons, List.length_append, List.length_nil, List.length_set] at *; omega) | decide | (unfold inI64; decide)); conv => whnf)
    | omega | decide | assumption)
  · refine .ret _ ?_
    conv => whnf
    exact ⟨_, ⟨l, ⟨Nat.le_refl _, fun x h => h⟩, 1000001, .inl rfl, rfl, rfl⟩, Res.le_refl _, trivial⟩
  refine LoopX.rule hT (C := []) (ι := Nat) (fun k => 1 ≤ k ∧ k ≤ l.length) (fun k => mkSt [(0, .buf 1000001), (1, .fn g []), (5, .d (.int .i64 k))] [(1000001, seqB 66 3 mvF mv0 l)]) (fun k => l.length - k) 1 ⟨by omega, by omega⟩ (by refine Entails.mk' [(1000001, 1000001)] rfl rfl ?_ ?_ <;> repeat' (first | exact True.intro | exact SV.le_refl _ | exact Res.le_refl _ | exact SV.le_int (by omega) | exact SV.le_any _ | refine And.intro ?_ ?_)) ?_
  rintro k ⟨p1, p2⟩
  conv => whnf
  repeat' (first
    | (refine CallX.of (heq (l.getD (k : Int).toNat mv0) (l.getD ((k : Int) - 1).toNat mv0) (getD_mem (by omega)) (getD_mem (by omega))) [] rfl ⟨SV.le_refl _, SV.le_refl _, trivial⟩ trivial rfl rfl ?_; rintro x rout ⟨rfl, rfl⟩; refine ⟨rfl, ?_⟩; conv => whnf)
    | (refine br_intro (fun hb => ?_) (fun hb => ?_) <;> (try simp only [decide_eq_true_eq, decide_eq_false_iff_not, Bool.not_eq_true', Bool.not_eq_false', Bool.and_eq_true, Bool.or_eq_true, beq_iff_eq, not_and, Int.not_le, Int.not_lt, Int.toNat_natCast, beq_eq_false_iff_ne, ne_eq, eq_self, not_true_eq_false, not_false_eq_true] at hb) <;> (conv => whnf))
    | (refine RegX.rule (id := 6) hT rfl [] [(0, []), (1, [0]), (2, [0, 1]), (3, [0]), (4, [0]), (5, [0, 1, 2, 3, 4]), (6, [0, 1, 2, 3, 4, 5]), (7, [0, 1, 2, 3, 4, 5]), (8, [0, 1, 2, 3, 4]), (9, [0, 1, 2, 3, 4]), (10, [])] (by decide +kernel) ?_; conv => whnf)
    | (refine RegX.rule (id := 11) hT rfl [] [(0, []), (1, [0]), (2, [0, 1]), (3, [0]), (4, [0]), (5, [0, 1, 2, 3, 4]), (6, [0, 1, 2, 3, 4, 5]), (7, [0, 1, 2, 3, 4, 5]), (8, [0, 1, 2, 3, 4]), (9, [0, 1, 2, 3, 4]), (10, []), (11, [])] (by decide +kernel) ?_; conv => whnf)
    | omega
    | (refine And.intro ?_ ?_; ((try dsimp only); first | omega | (refine ⟨by omega, by omega, Int.le_trans (Int.mul_le_mul_of_nonneg_right (Int.ofNat_le.2 (Nat.le_of_ble_eq_true (rfl : Nat.ble _ 1024 = true))) (by omega)) (by omega), by omega⟩) | (refine Nat.le_trans (Nat.mul_le_mul_left _ (Nat.le_of_ble_eq_true (rfl : Nat.ble _ 1024 = true))) ?_; omega) | (unfold inI64; omega) | (constructor <;> omega) | (simp only [inI64, List.length_cons, List.length_append, List.length_nil, List.length_set] at *; omega) | decide | (unfold inI64; decide)); conv => whnf)
    | omega | decide | assumption)
  · refine .look rfl ?_
    conv => whnf
    repeat' (first
      | (refine br_intro (fun hb => ?_) (fun hb => ?_) <;> (try simp only [decide_eq_true_eq, decide_eq_false_iff_not, Bool.not_eq_true', Bool.not_eq_false', Bool.and_eq_true, Bool.or_eq_true, beq_iff_eq, not_and, Int.not_le, Int.not_lt, Int.toNat_natCast, beq_eq_false_iff_ne, ne_eq, eq_self, not_true_eq_false, not_false_eq_true] at hb) <;> (conv => whnf))
      | (refine RegX.rule (id := 6) hT rfl [] [(0, []), (1, [0]), (2, [0, 1]), (3, [0]), (4, [0]), (5, [0, 1, 2, 3, 4]), (6, [0, 1, 2, 3, 4, 5]), (7, [0, 1, 2, 3, 4, 5]), (8, [0, 1, 2, 3, 4]), (9, [0, 1, 2, 3, 4]), (10, [])] (by decide +kernel) ?_; conv => whnf)
      | (refine RegX.rule (id := 11) hT rfl [] [(0, []), (1, [0]), (2, [0, 1]), (3, [0]), (4, [0]), (5, [0, 1, 2, 3, 4]), (6, [0, 1, 2, 3, 4, 5]), (7, [0, 1, 2, 3, 4, 5]), (8, [0, 1, 2, 3, 4]), (9, [0, 1, 2, 3, 4]), (10, []), (11, [])] (by decide +kernel) ?_; conv => whnf)
      | omega
      | (refine And.intro ?_ ?_; ((try dsimp only); first | omega | (refine ⟨by omega, by omega, Int.le_trans (Int.mul_le_mul_of_nonneg_right (Int.ofNat_le.2 (Nat.le_of_ble_eq_true (rfl : Nat.ble _ 1024 = true))) (by omega)) (by omega), by omega⟩) | (refine Nat.le_trans (Nat.mul_le_mul_left _ (Nat.le_of_ble_eq_true (rfl : Nat.ble _ 1024 = true))) ?_; omega) | (unfold inI64; omega) | (constructor <;> omega) | (simp only [inI64, List.length_cons, List.length_append, List.length_nil, List.length_set] at *; omega) | decide | (unfold inI64; decide)); conv => whnf)
      | omega | decide | assumption)
    have hsub : SV.le (SV.sub 1000001 3 (k : Int).toNat (((l.length : Nat) : Int) - (k : Int)).toNat) (SV.sub 1000001 3 k (l.length - k)) := by
      rw [show (k : Int).toNat = k by omega, show (((l.length : Nat) : Int) - (k : Int)).toNat = l.length - k by omega]; exact SV.le_refl _
    refine LoopX.rule hT (C := []) (ι := Nat × Nat × List Mov) (fun (q, m, c) => k ≤ q ∧ q < k + m ∧ 1 ≤ m ∧ k + m ≤ l.length ∧ sameL l c)
      (fun (q, m, c) => mkSt [(0, .buf 1000001), (1, .fn g []), (5, .d (.int .i64 q)), (6, .sub 1000001 3 k (l.length - k)), (7, .d (.int .i64 m))] [(1000001, seqB 66 3 mvF mv0 c)])
      (fun (_, m, _) => l.length - m) (k, 1, l) ⟨by omega, by omega, by omega, by omega, rfl, fun x h => h⟩ (by refine Entails.mk' [(1000001, 1000001)] rfl rfl ?_ ?_ <;> repeat' (first | exact True.intro | exact SV.le_refl _ | exact Res.le_refl _ | (exact hsub) | exact SV.le_int (by omega) | exact SV.le_any _ | refine And.intro ?_ ?_)) ?_
    rintro ⟨q, m, c⟩ ⟨r1, r2, r3, r4, r5⟩
    have hc0 := r5.1
    conv => whnf
    repeat' (first
      | (refine CallX.of (heq (c.getD (k + (m : Int).toNat) mv0) (c.getD (k + ((m : Int) - 1).toNat) mv0) (r5.2 _ (getD_mem (by omega))) (r5.2 _ (getD_mem (by omega)))) [] rfl ⟨SV.le_refl _, SV.le_refl _, trivial⟩ trivial rfl rfl ?_; rintro x rout ⟨rfl, rfl⟩; refine ⟨rfl, ?_⟩; conv => whnf)
      | (refine SliceX.first (lo := none) rfl ?_; conv => whnf)
      | (refine SliceX.look (lo := some _) rfl ?_; conv => whnf)
      | (refine br_intro (fun hb => ?_) (fun hb => ?_) <;> (try simp only [decide_eq_true_eq, decide_eq_false_iff_not, Bool.not_eq_true', Bool.not_eq_false', Bool.and_eq_true, Bool.or_eq_true, beq_iff_eq, not_and, Int.not_le, Int.not_lt, Int.toNat_natCast, beq_eq_false_iff_ne, ne_eq, eq_self, not_true_eq_false, not_false_eq_true] at hb) <;> (conv => whnf))
      | (refine RegX.rule (id := 6) hT rfl [] [(0, []), (1, [0]), (2, [0, 1]), (3, [0]), (4, [0]), (5, [0, 1, 2, 3, 4]), (6, [0, 1, 2, 3, 4, 5]), (7, [0, 1, 2, 3, 4, 5]), (8, [0, 1, 2, 3, 4]), (9, [0, 1, 2, 3, 4]), (10, [])] (by decide +kernel) ?_; conv => whnf)
      | (refine RegX.rule (id := 11) hT rfl [] [(0, []), (1, [0]), (2, [0, 1]), (3, [0]), (4, [0]), (5, [0, 1, 2, 3, 4]), (6, [0, 1, 2, 3, 4, 5]), (7, [0, 1, 2, 3, 4, 5]), (8, [0, 1, 2, 3, 4]), (9, [0, 1, 2, 3, 4]), (10, []), (11, [])] (by decide +kernel) ?_; conv => whnf)
      | omega
      | (refine And.intro ?_ ?_; ((try dsimp only); first | omega | (refine ⟨by omega, by omega, Int.le_trans (Int.mul_le_mul_of_nonneg_right (Int.ofNat_le.2 (Nat.le_of_ble_eq_true (rfl : Nat.ble _ 1024 = true))) (by omega)) (by omega), by omega⟩) | (refine Nat.le_trans (Nat.mul_le_mul_left _ (Nat.le_of_ble_eq_true (rfl : Nat.ble _ 1024 = true))) ?_; omega) | (unfold inI64; omega) | (constructor <;> omega) | (simp only [inI64, List.length_cons, List.length_append, List.length_nil, List.length_set] at *; omega) | decide | (unfold inI64; decide)); conv => whnf)
      | omega | decide | assumption)
    · have e1 : ∀ z, z = k + (m : Int).toNat → z < l.length → c.getD z mv0 ∈ l := fun z _ h => r5.2 _ (getD_mem (by omega))
      refine ⟨(q + 1, m + 1, _), ⟨by omega, by omega, by omega, by omega, sameL_set r5 (e1 _ rfl (by omega))⟩, by show l.length - (m + 1) < l.length - m; omega, Entails.mk' [(1000001, 1000001)] rfl rfl ⟨SV.le_refl _, SV.le_refl _, SV.le_int (by omega), SV.le_refl _, SV.le_int (by omega), trivial⟩ ⟨Res.le_putF (fun _ _ => rfl), trivial⟩⟩
    · exact ⟨(q, m + 1, c), ⟨by omega, by omega, by omega, by omega, r5⟩, by show l.length - (m + 1) < l.length - m; omega, (by refine Entails.mk' [(1000001, 1000001)] rfl rfl ?_ ?_ <;> repeat' (first | exact True.intro | exact SV.le_refl _ | exact Res.le_refl _ | exact SV.le_int (by omega) | exact SV.le_any _ | refine And.intro ?_ ?_))⟩
    · refine .ret _ ?_
      conv => whnf
      refine ⟨_, ⟨c.take q, ⟨by rw [List.length_take]; omega, fun x hx => r5.2 x (List.mem_of_mem_take hx)⟩, 64, .inr rfl, rfl, rfl⟩, Res.le_buf (by rw [List.length_take]; omega) (fun i hi => ?_), trivial⟩
      have hi : i < q := by
        have : i < (q : Int).toNat := hi
        omega
      have h1 : Nat.ble (q : Int).toNat i = false := by
        rw [← Bool.not_eq_true, Nat.ble_eq]; omega
      show (bif Nat.ble (q : Int).toNat i && _ then _ else rowF mvF mv0 c i) = _
      rw [h1]
      simp only [Bool.false_and, cond_false, rowF]
      rw [List.getD_eq_getElem?_getD, List.getD_eq_getElem?_getD, List.getElem?_take_of_lt hi]
  · exact ⟨k + 1, ⟨by omega, by omega⟩, by omega, (by refine Entails.mk' [(1000001, 1000001)] rfl rfl ?_ ?_ <;> repeat' (first | exact True.intro | exact SV.le_refl _ | exact Res.le_refl _ | exact SV.le_int (by omega) | exact SV.le_any _ | refine And.intro ?_ ?_))⟩
  · refine .ret _ ?_
    conv => whnf
    exact ⟨_, ⟨l, ⟨Nat.le_refl _, fun x h => h⟩, 1000001, .inl rfl, rfl, rfl⟩, Res.le_refl _, trivial⟩
def mvKey (x : Mov) : List UInt8 := x.a ++ [32] ++ x.b
-- Moves$1
theorem z100 (x y : Mov) (hx : x.a.length ≤ 8 ∧ x.b.length ≤ 8) (hy : y.a.length ≤ 8 ∧ y.b.length ≤ 8) : FSpec Tryz.prog 100 [.agg ((mvF x).map .d), .agg ((mvF y).map .d)] [] (fun v r => v = .d (.int .i64 (cmpS (mvKey x) (mvKey y))) ∧ r = []) := by
  refine spec_of hT (C := []) Tryz.func100 rfl Tryz.call100 rfl rfl rfl ?_
  conv => whnf
  repeat' (first
    | (refine CallX.exact (s190 _ _) rfl rfl ?_; rotate_right; conv => whnf)
    | (refine br_intro (fun hb => ?_) (fun hb => ?_) <;> (try simp only [decide_eq_true_eq, decide_eq_false_iff_not, Bool.not_eq_true', Bool.not_eq_false', Bool.and_eq_true, Bool.or_eq_true, beq_iff_eq, not_and, Int.not_le, Int.not_lt, Int.toNat_natCast, beq_eq_false_iff_ne, ne_eq, eq_self, not_true_eq_false, not_false_eq_true] at hb) <;> (conv => whnf))
    | omega
    | (refine And.intro ?_ ?_; ((try dsimp only); first | omega | (refine ⟨by omega, by omega, Int.le_trans (Int.mul_le_mul_of_nonneg_right (Int.ofNat_le.2 (Nat.le_of_ble_eq_true (rfl : Nat.ble _ 1024 = true))) (by omega)) (by omega), by omega⟩) | (refine Nat.le_trans (Nat.mul_le_mul_left _ (Nat.le_of_ble_eq_true (rfl : Nat.ble _ 1024 = true))) ?_; omega) | (unfold inI64; omega) | (constructor <;> omega) | (simp only [inI64, List.length_cons, List.length_append, List.length_nil, List.length_set] at *; omega) | decide | (unfold inI64; decide)); conv => whnf)
    | omega | decide | assumption)
  refine .ret _ ?_
  conv => whnf
  refine ⟨[], ⟨?_, rfl⟩, trivial⟩
  conv => lhs; whnf
  all_goals rfl
-- Moves$2
theorem z103 (x y : Mov) : FSpec Tryz.prog 103 [.agg ((mvF x).map .d), .agg ((mvF y).map .d)] [] (fun v r => v = .d (.bool (x.a == y.a && x.b == y.b)) ∧ r = []) := by
  refine spec_of hT (C := []) Tryz.func103 rfl Tryz.call103 rfl rfl rfl ?_
  conv => whnf
  repeat' (first
    | (refine br_intro (fun hb => ?_) (fun hb => ?_) <;> (try simp only [decide_eq_true_eq, decide_eq_false_iff_not, Bool.not_eq_true', Bool.not_eq_false', Bool.and_eq_true, Bool.or_eq_true, beq_iff_eq, not_and, Int.not_le, Int.not_lt, Int.toNat_natCast, beq_eq_false_iff_ne, ne_eq, eq_self, not_true_eq_false, not_false_eq_true] at hb) <;> (conv => whnf))
    | omega
    | (refine And.intro ?_ ?_; ((try dsimp only); first | omega | (refine ⟨by omega, by omega, Int.le_trans (Int.mul_le_mul_of_nonneg_right (Int.ofNat_le.2 (Nat.le_of_ble_eq_true (rfl : Nat.ble _ 1024 = true))) (by omega)) (by omega), by omega⟩) | (refine Nat.le_trans (Nat.mul_le_mul_left _ (Nat.le_of_ble_eq_true (rfl : Nat.ble _ 1024 = true))) ?_; omega) | (unfold inI64; omega) | (constructor <;> omega) | (simp only [inI64, List.length_cons, List.length_append, List.length_nil, List.length_set] at *; omega) | decide | (unfold inI64; decide)); conv => whnf)
    | omega | decide | assumption)
  all_goals
    refine .ret _ ?_
    conv => whnf
    refine ⟨[], ⟨?_, rfl⟩, trivial⟩
    conv => lhs; whnf
    congr 2
    grind
end Go.Proofs.YtnkdlkgannnfhaaGreatDoor
set_option maxRecDepth 20000
namespace Go.Proofs.YtnkdlkgannnfhaaGreatDoor
open Go Go.Eng
abbrev spcell : Res := .cells 23 [.ptr 1000000 0]
-- Moves$3
theorem z105 (n : Nat) (L : Nat → Int) (hL : Rok n L) (a : Int) (h0 : 0 ≤ a) (ha : a ≤ 2^38) (x : Mov) : FSpec Tryz.prog 105 [.agg ((mvF x).map .d), .ptr 1000002 0] [(1000000, strm n L a), (1000002, spcell)] (fun y r => (∃ b : Bool, y = .d (.bool b)) ∧ ∃ c, (a ≤ c ∧ c ≤ a + 1) ∧ r = [(1000000, strm n L c), (1000002, spcell)]) := by
  refine spec_of hT (C := []) Tryz.func105 rfl Tryz.call105 rfl rfl rfl ?_
  conv => whnf
  repeat' (first
    | (refine CallX.of (s84 n L hL _ ?_ ?_ _ ?_) [(1000000, 1000000)] rfl ⟨SV.le_refl _, SV.le_refl _, trivial⟩ ⟨Res.le_refl _, trivial⟩ rfl rfl ?_; rotate_right; rintro x rout ⟨⟨f, rfl⟩, ⟨c, c1, c2, rfl⟩⟩; refine ⟨rfl, ?_⟩; conv => whnf)
    | (refine br_intro (fun hb => ?_) (fun hb => ?_) <;> (try simp only [decide_eq_true_eq, decide_eq_false_iff_not, Bool.not_eq_true', Bool.not_eq_false', Bool.and_eq_true, Bool.or_eq_true, beq_iff_eq, not_and, Int.not_le, Int.not_lt, Int.toNat_natCast, beq_eq_false_iff_ne, ne_eq, eq_self, not_true_eq_false, not_false_eq_true] at hb) <;> (conv => whnf))
    | omega
    | (refine And.intro ?_ ?_; ((try dsimp only); first | omega | (refine ⟨by omega, by omega, Int.le_trans (Int.mul_le_mul_of_nonneg_right (Int.ofNat_le.2 (Nat.le_of_ble_eq_true (rfl : Nat.ble _ 1024 = true))) (by omega)) (by omega), by omega⟩) | (refine Nat.le_trans (Nat.mul_le_mul_left _ (Nat.le_of_ble_eq_true (rfl : Nat.ble _ 1024 = true))) ?_; omega) | (unfold inI64; omega) | (constructor <;> omega) | (simp only [inI64, List.length_cons, List.length_append, List.length_nil, List.length_set] at *; omega) | decide | (unfold inI64; decide)); conv => whnf)
    | omega | decide | assumption)
  all_goals first
    | (refine .ret _ ?_
       conv => whnf
       exact ⟨[(1000000, strm n L c), (1000002, spcell)], ⟨⟨_, rfl⟩, c, ⟨by omega, by omega⟩, rfl⟩, Res.le_refl _, Res.le_refl _, trivial⟩)
    | (refine .ret _ ?_
       conv => whnf
       exact ⟨[(1000000, strm n L a), (1000002, spcell)], ⟨⟨_, rfl⟩, a, ⟨by omega, by omega⟩, rfl⟩, Res.le_refl _, Res.le_refl _, trivial⟩)
-- slices.IndexFunc of moves, by the stream
theorem z203 (n : Nat) (L : Nat → Int) (hL : Rok n L) (a : Int) (h0 : 0 ≤ a) (ha : a ≤ 2^37) (l : List Mov) (hl : l.length ≤ 1000) :
    FSpec Tryz.prog 203 [.buf 1000001, .fn 105 [.ptr 1000002 0]] [(1000000, strm n L a), (1000001, mvB l), (1000002, spcell)] (fun y r => (∃ j : Int, -1 ≤ j ∧ j < l.length ∧ y = .d (.int .i64 j)) ∧ ∃ c, (a ≤ c ∧ c ≤ a + l.length) ∧ r = [(1000000, strm n L c), (1000001, mvB l), (1000002, spcell)]) := by
  refine spec_of hT (C := []) Tryz.func203 rfl Tryz.call203 rfl rfl rfl ?_
  conv => whnf
  refine LoopX.rule hT (C := []) (ι := Nat × Int) (fun (i, b) => i ≤ l.length ∧ a ≤ b ∧ b ≤ a + i) (fun (i, b) => mkSt [(0, .buf 1000001), (1, .fn 105 [.ptr 1000002 0]), (7, .d (.int .i64 l.length)), (8, .d (.int .i64 i))] [(1000000, strm n L b), (1000001, mvB l), (1000002, spcell)]) (fun (i, _) => l.length - i) (0, a) ⟨by simp, by simp, by simp⟩ (by (refine Entails.mk' [(1000000, 1000000), (1000001, 1000001), (1000002, 1000002)] rfl rfl ?_ ?_ <;> repeat' (first | exact True.intro | exact SV.le_refl _ | exact Res.le_refl _ | exact SV.le_int (by omega) | exact SV.le_any _ | refine And.intro ?_ ?_)); done) ?_
  rintro ⟨i, b⟩ ⟨p1, p2, p3⟩
  have p1 : i ≤ l.length := p1
  have p2 : a ≤ b := p2
  have p3 : b ≤ a + i := p3
  conv => whnf
  repeat' (first
    | (refine CallX.of (z105 n L hL b (by omega) (by omega) (l.getD (i : Int).toNat mv0)) [(1000000, 1000000), (1000002, 1000002)] rfl ⟨SV.le_refl _, SV.le_refl _, trivial⟩ ⟨Res.le_refl _, Res.le_refl _, trivial⟩ rfl rfl ?_; rintro x rout ⟨⟨f, rfl⟩, c, ⟨hc1, hc2⟩, rfl⟩; refine ⟨rfl, ?_⟩; conv => whnf)
    | (refine br_intro (fun hb => ?_) (fun hb => ?_) <;> (try simp only [decide_eq_true_eq, decide_eq_false_iff_not, Bool.not_eq_true', Bool.not_eq_false', Bool.and_eq_true, Bool.or_eq_true, beq_iff_eq, not_and, Int.not_le, Int.not_lt, Int.toNat_natCast, beq_eq_false_iff_ne, ne_eq, eq_self, not_true_eq_false, not_false_eq_true] at hb) <;> (conv => whnf))
    | omega
    | (refine And.intro ?_ ?_; ((try dsimp only); first | omega | (refine ⟨by omega, by omega, Int.le_trans (Int.mul_le_mul_of_nonneg_right (Int.ofNat_le.2 (Nat.le_of_ble_eq_true (rfl : Nat.ble _ 1024 = true))) (by omega)) (by omega), by omega⟩) | (refine Nat.le_trans (Nat.mul_le_mul_left _ (Nat.le_of_ble_eq_true (rfl : Nat.ble _ 1024 = true))) ?_; omega) | (unfold inI64; omega) | (constructor <;> omega) | (simp only [inI64, List.length_cons, List.length_append, List.length_nil, List.length_set] at *; omega) | decide | (unfold inI64; decide)); conv => whnf)
    | omega | decide | assumption)
  all_goals first
    | exact ⟨(i + 1, c), ⟨by omega, by omega, by omega⟩, (show l.length - (i + 1) < l.length - i by omega), (by (refine Entails.mk' [(1000000, 1000000), (1000001, 1000001), (1000002, 1000002)] rfl rfl ?_ ?_ <;> repeat' (first | exact True.intro | exact SV.le_refl _ | exact Res.le_refl _ | exact SV.le_int (by omega) | exact SV.le_any _ | refine And.intro ?_ ?_)); done)⟩
    | (refine .ret _ ?_
       conv => whnf
       exact ⟨[(1000000, strm n L c), (1000001, mvB l), (1000002, spcell)], ⟨⟨_, by omega, by omega, rfl⟩, c, ⟨by omega, by omega⟩, rfl⟩, Res.le_refl _, Res.le_refl _, Res.le_refl _, trivial⟩)
    | (refine .ret _ ?_
       conv => whnf
       exact ⟨[(1000000, strm n L b), (1000001, mvB l), (1000002, spcell)], ⟨⟨_, by omega, by omega, rfl⟩, b, ⟨by omega, by omega⟩, rfl⟩, Res.le_refl _, Res.le_refl _, Res.le_refl _, trivial⟩)
-- slices.DeleteFunc of moves, by the stream: some of the elements
set_option maxHeartbeats 1000000 in
theorem z104 (n : Nat) (L : Nat → Int) (hL : Rok n L) (a : Int) (h0 : 0 ≤ a) (ha : a ≤ 2^36) (l : List Mov) (hl : l.length ≤ 1000) :
    FSpec Tryz.prog 104 [.buf 1000001, .fn 105 [.ptr 1000002 0]] [(1000000, strm n L a), (1000001, mvB l), (1000002, spcell)] (fun y r => ∃ c, subL l c ∧ ∃ d, (d = 1000001 ∨ d = 41) ∧ y = .buf d ∧ ∃ b, (a ≤ b ∧ b ≤ a + 2 * l.length) ∧ r = [(1000000, strm n L b), (d, mvB c), (1000002, spcell)]) := by
  refine spec_of hT (C := []) Tryz.func104 rfl Tryz.call104 rfl rfl rfl ?_
  conv => whnf
  refine CallX.of (z203 n L hL a h0 (by omega) l hl) [(1000000, 1000000), (1000001, 1000001), (1000002, 1000002)] rfl ⟨SV.le_refl _, SV.le_refl _, trivial⟩ ⟨Res.le_refl _, Res.le_refl _, Res.le_refl _, trivial⟩ rfl rfl ?_
  rintro x rout ⟨⟨j, hj1, hj2, rfl⟩, b0, ⟨hb1, hb2⟩, rfl⟩
  refine ⟨rfl, ?_⟩
  conv => whnf
  repeat' (first
    | (refine br_intro (fun hb => ?_) (fun hb => ?_) <;> (try simp only [decide_eq_true_eq, decide_eq_false_iff_not, Bool.not_eq_true', Bool.not_eq_false', Bool.and_eq_true, Bool.or_eq_true, beq_iff_eq, not_and, Int.not_le, Int.not_lt, Int.toNat_natCast, beq_eq_false_iff_ne, ne_eq, eq_self, not_true_eq_false, not_false_eq_true] at hb) <;> (conv => whnf))
    | omega
    | (refine And.intro ?_ ?_; ((try dsimp only); first | omega | (refine ⟨by omega, by omega, Int.le_trans (Int.mul_le_mul_of_nonneg_right (Int.ofNat_le.2 (Nat.le_of_ble_eq_true (rfl : Nat.ble _ 1024 = true))) (by omega)) (by omega), by omega⟩) | (refine Nat.le_trans (Nat.mul_le_mul_left _ (Nat.le_of_ble_eq_true (rfl : Nat.ble _ 1024 = true))) ?_; omega) | (unfold inI64; omega) | (constructor <;> omega) | (simp only [inI64, List.length_cons, List.length_append, List.length_nil, List.length_set] at *; omega) | decide | (unfold inI64; decide)); conv => whnf)
    | omega | decide | assumption)
  · refine .ret _ ?_
    conv => whnf
    exact ⟨_, ⟨l, ⟨Nat.le_refl _, fun x h => h⟩, 1000001, .inl rfl, rfl, b0, ⟨by omega, by omega⟩, rfl⟩, Res.le_refl _, Res.le_refl _, Res.le_refl _, trivial⟩
  obtain ⟨jN, rfl⟩ : ∃ jN : Nat, j = jN := ⟨j.toNat, by omega⟩
  refine LoopX.rule hT (C := []) (ι := Nat × Nat × Int × List Mov) (fun (i, k, b, c) => (i < k ∧ k ≤ l.length ∧ a ≤ b ∧ b ≤ a + l.length + k) ∧ sameL l c)
    (fun (i, k, b, c) => mkSt [(0, .buf 1000001), (1, .fn 105 [.ptr 1000002 0]), (5, .d (.int .i64 i)), (6, .d (.int .i64 k))] [(1000000, strm n L b), (1000001, mvB c), (1000002, spcell)]) (fun (_, k, _, _) => l.length - k) (jN, jN + 1, b0, l) ⟨⟨by show jN < jN + 1; omega, by show jN + 1 ≤ l.length; omega, by show a ≤ b0; omega, by show b0 ≤ a + l.length + ((jN + 1 : Nat) : Int); omega⟩, rfl, fun x h => h⟩ (by (refine Entails.mk' [(1000000, 1000000), (1000001, 1000001), (1000002, 1000002)] rfl rfl ?_ ?_ <;> repeat' (first | exact True.intro | exact SV.le_refl _ | exact Res.le_refl _ | exact SV.le_int (by omega) | exact SV.le_any _ | refine And.intro ?_ ?_)); done) ?_
  rintro ⟨i, k, b, c⟩ ⟨⟨r1, r2, r3, r4⟩, r5⟩
  have r1 : i < k := r1
  have r2 : k ≤ l.length := r2
  have r3 : a ≤ b := r3
  have r4 : b ≤ a + l.length + k := r4
  have hc0 := r5.1
  conv => whnf
  repeat' (first
    | (refine CallX.of (z105 n L hL b (by omega) (by omega) (c.getD (k : Int).toNat mv0)) [(1000000, 1000000), (1000002, 1000002)] rfl ⟨SV.le_refl _, SV.le_refl _, trivial⟩ ⟨Res.le_refl _, Res.le_refl _, trivial⟩ rfl rfl ?_; rintro x rout ⟨⟨f, rfl⟩, c5, ⟨hc1, hc2⟩, rfl⟩; refine ⟨rfl, ?_⟩; conv => whnf)
    | (refine SliceX.first (lo := none) rfl ?_; conv => whnf)
    | (refine SliceX.look (lo := some _) rfl ?_; conv => whnf)
    | (refine br_intro (fun hb => ?_) (fun hb => ?_) <;> (try simp only [decide_eq_true_eq, decide_eq_false_iff_not, Bool.not_eq_true', Bool.not_eq_false', Bool.and_eq_true, Bool.or_eq_true, beq_iff_eq, not_and, Int.not_le, Int.not_lt, Int.toNat_natCast, beq_eq_false_iff_ne, ne_eq, eq_self, not_true_eq_false, not_false_eq_true] at hb) <;> (conv => whnf))
    | omega
    | (refine And.intro ?_ ?_; ((try dsimp only); first | omega | (refine ⟨by omega, by omega, Int.le_trans (Int.mul_le_mul_of_nonneg_right (Int.ofNat_le.2 (Nat.le_of_ble_eq_true (rfl : Nat.ble _ 1024 = true))) (by omega)) (by omega), by omega⟩) | (refine Nat.le_trans (Nat.mul_le_mul_left _ (Nat.le_of_ble_eq_true (rfl : Nat.ble _ 1024 = true))) ?_; omega) | (unfold inI64; omega) | (constructor <;> omega) | (simp only [inI64, List.length_cons, List.length_append, List.length_nil, List.length_set] at *; omega) | decide | (unfold inI64; decide)); conv => whnf)
    | omega | decide | assumption)
  · exact ⟨(i + 1, k + 1, c5, c.set (i : Int).toNat (c.getD (k : Int).toNat mv0)), ⟨⟨by omega, by omega, by omega, by omega⟩, sameL_set r5 (r5.2 _ (getD_mem (by omega)))⟩, (show l.length - (k + 1) < l.length - k by omega), Entails.mk' [(1000000, 1000000), (1000001, 1000001), (1000002, 1000002)] rfl rfl ⟨SV.le_refl _, SV.le_refl _, SV.le_int (by omega), SV.le_int (by omega), trivial⟩ ⟨Res.le_refl _, Res.le_putF (fun _ _ => rfl), Res.le_refl _, trivial⟩⟩
  · exact ⟨(i, k + 1, c5, c), ⟨⟨by omega, by omega, by omega, by omega⟩, r5⟩, (show l.length - (k + 1) < l.length - k by omega), (by (refine Entails.mk' [(1000000, 1000000), (1000001, 1000001), (1000002, 1000002)] rfl rfl ?_ ?_ <;> repeat' (first | exact True.intro | exact SV.le_refl _ | exact Res.le_refl _ | exact SV.le_int (by omega) | exact SV.le_any _ | refine And.intro ?_ ?_)); done)⟩
  · refine .ret _ ?_
    conv => whnf
    refine ⟨_, ⟨c.take i, ⟨by rw [List.length_take]; omega, fun x hx => r5.2 x (List.mem_of_mem_take hx)⟩, 41, .inr rfl, rfl, b, ⟨by omega, by omega⟩, rfl⟩, Res.le_refl _, Res.le_buf (by rw [List.length_take]; omega) (fun s hs => ?_), Res.le_refl _, trivial⟩
    have hs : s < i := by
      have : s < (i : Int).toNat := hs
      omega
    have h1 : Nat.ble (i : Int).toNat s = false := by
      rw [← Bool.not_eq_true, Nat.ble_eq]; omega
    show (bif Nat.ble (i : Int).toNat s && _ then _ else rowF mvF mv0 c s) = _
    rw [h1]
    simp only [Bool.false_and, cond_false, rowF]
    rw [List.getD_eq_getElem?_getD, List.getD_eq_getElem?_getD, List.getElem?_take_of_lt hs]
end Go.Proofs.YtnkdlkgannnfhaaGreatDoor
set_option maxRecDepth 20000
namespace Go.Proofs.YtnkdlkgannnfhaaGreatDoor
open Go Go.Eng
def tE : List (List UInt8) := [[97], [98], [99], [100], [101]]
def rdS (x : Roa) : Prop := x.a.length ≤ 8 ∧ x.b.length ≤ 8
theorem tE_len {i : Nat} : (tE.getD i []).length ≤ 1 := by
  rcases Nat.lt_or_ge i 5 with h | h
  · have : i = 0 ∨ i = 1 ∨ i = 2 ∨ i = 3 ∨ i = 4 := by omega
    rcases this with rfl | rfl | rfl | rfl | rfl <;> decide
  · rw [List.getD_eq_getElem?_getD, List.getElem?_eq_none (by simpa [tE] using h)]; simp
theorem three_len {u x y z : List UInt8} (h : u ∈ [x, y, z]) (hx : x.length ≤ 8) (hy : y.length ≤ 8) (hz : z.length ≤ 8) : u.length ≤ 8 := by
  simp at h
  rcases h with rfl | rfl | rfl <;> assumption
abbrev rdB (l : List Roa) : Res := seqB 146 4 rdF rd0 l
-- Roads
set_option maxHeartbeats 2000000 in
theorem sRds (n : Nat) (L : Nat → Int) (hL : Rok n L) (a : Int) (h0 : 0 ≤ a) (ha : a ≤ 2^38) :
    FSpec Tryz.prog 17 [.ptr 1000000 0] [(1000000, strm n L a)] (fun y r => (∃ l : List Roa, allK rdS 25 l ∧ y = .d (roas l)) ∧ Moved n L a 100 r) := by
  refine spec_of hT (C := []) Tryz.func17 rfl Tryz.call17 rfl rfl rfl ?_
  conv => whnf
  repeat' (first
    | (refine br_intro (fun hb => ?_) (fun hb => ?_) <;> (try simp only [decide_eq_true_eq, decide_eq_false_iff_not, Bool.not_eq_true', Bool.not_eq_false', Bool.and_eq_true, Bool.or_eq_true, beq_iff_eq, not_and, Int.not_le, Int.not_lt, Int.toNat_natCast, beq_eq_false_iff_ne, ne_eq, eq_self, not_true_eq_false, not_false_eq_true] at hb) <;> (conv => whnf))
    | (refine RegX.rule (id := 14) hT rfl [] [(0, []), (1, [0]), (2, [0, 1]), (3, [0, 1, 2]), (4, [0, 1, 2, 3]), (5, [0, 1, 2, 3]), (6, [0, 1, 2, 3]), (7, [0, 1, 2, 3]), (8, [0, 1, 2, 3]), (10, [0, 1, 2, 3, 4, 5, 6, 7, 8]), (11, [0, 1, 2, 3, 4, 5, 6, 7, 8, 10]), (12, [0, 1, 2, 3, 4, 5, 6, 7, 8, 10]), (13, [0, 1, 2, 3, 4, 5, 6, 7, 8, 10]), (14, [0, 1, 2, 3, 4, 5, 6, 7, 8, 10]), (15, [0, 1, 2, 3, 4, 5, 6, 7, 8, 10]), (17, [0, 1, 2, 3, 4, 5, 6, 7, 8, 10, 11, 12, 13, 14, 15]), (9, [0, 1, 2, 10, 11, 12, 13, 14, 15, 17]), (16, [0, 1, 2, 17]), (18, [0, 1, 2]), (19, [1, 2]), (20, [1, 2]), (21, [1, 2]), (22, [2]), (23, [2]), (24, [2]), (25, []), (26, []), (27, [])] (by decide +kernel) ?_; conv => whnf)
    | omega
    | (refine And.intro ?_ ?_; ((try dsimp only); first | omega | (refine ⟨by omega, by omega, Int.le_trans (Int.mul_le_mul_of_nonneg_right (Int.ofNat_le.2 (Nat.le_of_ble_eq_true (rfl : Nat.ble _ 1024 = true))) (by omega)) (by omega), by omega⟩) | (refine Nat.le_trans (Nat.mul_le_mul_left _ (Nat.le_of_ble_eq_true (rfl : Nat.ble _ 1024 = true))) ?_; omega) | (unfold inI64; omega) | (constructor <;> omega) | (simp only [inI64, List.length_cons, List.length_append, List.length_nil, List.length_set] at *; omega) | decide | (unfold inI64; decide)); conv => whnf)
    | omega | decide | assumption)
  refine LoopX.rule hT (C := []) (ι := Int × Nat × List Roa) (fun (b, i, l) => (a ≤ b ∧ b ≤ a + 15 * i ∧ i ≤ 5) ∧ allK rdS (5 * i) l)
    (fun (b, i, l) => mkSt [(0, .ptr 1000000 0), (3, .buf 3), (9, .d (strs tE)), (10, .d (.int .i64 5)), (11, .d (.int .i64 i))] [(1000000, strm n L b), (3, rdB l)]) (fun (_, i, _) => 5 - i) (a, 0, []) ⟨by simp, by simp [allK]⟩ ?_ ?_
  · exact (Entails.nil 3 3 146 4 (rowF rdF rd0 []) rfl rfl (by decide)).trans (by refine Entails.mk' [(1000000, 1000000), (3, 3)] rfl rfl ?_ ?_ <;> repeat' (first | exact True.intro | exact SV.le_refl _ | exact Res.le_refl _ | (exact SV.le_lit rfl rfl) | exact SV.le_int (by omega) | exact SV.le_any _ | refine And.intro ?_ ?_))
  rintro ⟨b, i, l⟩ ⟨⟨p1, p2, p3⟩, p4⟩
  have p1 : a ≤ b := p1
  have p2 : b ≤ a + 15 * i := p2
  have p3 : i ≤ 5 := p3
  have p4 : allK rdS (5 * i) l := p4
  have hll := p4.1
  have htl : tE.length = 5 := rfl
  conv => whnf
  repeat' (first
    | (refine br_intro (fun hb => ?_) (fun hb => ?_) <;> (try simp only [decide_eq_true_eq, decide_eq_false_iff_not, Bool.not_eq_true', Bool.not_eq_false', Bool.and_eq_true, Bool.or_eq_true, beq_iff_eq, not_and, Int.not_le, Int.not_lt, Int.toNat_natCast, beq_eq_false_iff_ne, ne_eq, eq_self, not_true_eq_false, not_false_eq_true] at hb) <;> (conv => whnf))
    | (refine RegX.rule (id := 14) hT rfl [] [(0, []), (1, [0]), (2, [0, 1]), (3, [0, 1, 2]), (4, [0, 1, 2, 3]), (5, [0, 1, 2, 3]), (6, [0, 1, 2, 3]), (7, [0, 1, 2, 3]), (8, [0, 1, 2, 3]), (10, [0, 1, 2, 3, 4, 5, 6, 7, 8]), (11, [0, 1, 2, 3, 4, 5, 6, 7, 8, 10]), (12, [0, 1, 2, 3, 4, 5, 6, 7, 8, 10]), (13, [0, 1, 2, 3, 4, 5, 6, 7, 8, 10]), (14, [0, 1, 2, 3, 4, 5, 6, 7, 8, 10]), (15, [0, 1, 2, 3, 4, 5, 6, 7, 8, 10]), (17, [0, 1, 2, 3, 4, 5, 6, 7, 8, 10, 11, 12, 13, 14, 15]), (9, [0, 1, 2, 10, 11, 12, 13, 14, 15, 17]), (16, [0, 1, 2, 17]), (18, [0, 1, 2]), (19, [1, 2]), (20, [1, 2]), (21, [1, 2]), (22, [2]), (23, [2]), (24, [2]), (25, []), (26, []), (27, [])] (by decide +kernel) ?_; conv => whnf)
    | omega
    | (refine And.intro ?_ ?_; ((try dsimp only); first | omega | (refine ⟨by omega, by omega, Int.le_trans (Int.mul_le_mul_of_nonneg_right (Int.ofNat_le.2 (Nat.le_of_ble_eq_true (rfl : Nat.ble _ 1024 = true))) (by omega)) (by omega), by omega⟩) | (refine Nat.le_trans (Nat.mul_le_mul_left _ (Nat.le_of_ble_eq_true (rfl : Nat.ble _ 1024 = true))) ?_; omega) | (unfold inI64; omega) | (constructor <;> omega) | (simp only [inI64, List.length_cons, List.length_append, List.length_nil, List.length_set] at *; omega) | decide | (unfold inI64; decide)); conv => whnf)
    | omega | decide | assumption)
  · refine LoopX.rule hT (C := []) (ι := Int × Nat × List Roa) (fun (c, j, l) => (a ≤ c ∧ c ≤ a + 15 * i + 3 * j ∧ j ≤ 5) ∧ allK rdS (5 * i + j) l)
      (fun (c, j, l) => mkSt [(0, .ptr 1000000 0), (3, .buf 3), (5, .d (.str (tE.getD i []))), (9, .d (strs tE)), (10, .d (.int .i64 5)), (11, .d (.int .i64 i)), (15, .d (strs tE)), (16, .d (.int .i64 5)), (17, .d (.int .i64 j))] [(1000000, strm n L c), (3, rdB l)]) (fun (_, j, _) => 5 - j) (b, 0, l) ⟨by simp; omega, by simpa using p4⟩ ?_ ?_
    · exact (by refine Entails.mk' [(1000000, 1000000), (3, 3)] rfl rfl ?_ ?_ <;> repeat' (first | exact True.intro | exact SV.le_refl _ | exact Res.le_refl _ | (exact SV.le_lit rfl rfl) | exact SV.le_int (by omega) | exact SV.le_any _ | refine And.intro ?_ ?_))
    rintro ⟨c, j, l⟩ ⟨⟨r1, r2, r3⟩, r4⟩
    have r1 : a ≤ c := r1
    have r2 : c ≤ a + 15 * i + 3 * j := r2
    have r3 : j ≤ 5 := r3
    have r4 : allK rdS (5 * i + j) l := r4
    have hlj := r4.1
    have hi5 : i < 5 := by omega
    conv => whnf
    repeat' (first
      | (refine CallX.of (s84 n L hL _ ?_ ?_ _ ?_) [(1000000, 1000000)] rfl ⟨SV.le_refl _, SV.le_refl _, trivial⟩ ⟨Res.le_refl _, trivial⟩ rfl rfl ?_; rotate_right; rintro x rout ⟨⟨f, rfl⟩, ⟨c, c1, c2, rfl⟩⟩; refine ⟨rfl, ?_⟩; conv => whnf)
      | (refine CallX.of (s33 n L hL _ ?_ ?_ [0, 1, 3, 5, 5, 8, 20] ?_ ?_) [(1000000, 1000000)] rfl ⟨SV.le_refl _, SV.le_lit rfl rfl, trivial⟩ ⟨Res.le_refl _, trivial⟩ rfl rfl ?_; rotate_right; rintro x rout ⟨⟨u1, hu1, rfl⟩, ⟨c, c1, c2, rfl⟩⟩; refine ⟨rfl, ?_⟩; conv => whnf)
      | (refine CallX.of (s33 n L hL _ ?_ ?_ [0, 1, 2, 4] ?_ ?_) [(1000000, 1000000)] rfl ⟨SV.le_refl _, SV.le_lit rfl rfl, trivial⟩ ⟨Res.le_refl _, trivial⟩ rfl rfl ?_; rotate_right; rintro x rout ⟨⟨u2, hu2, rfl⟩, ⟨c, c1, c2, rfl⟩⟩; refine ⟨rfl, ?_⟩; conv => whnf)
      | (refine br_intro (fun hb => ?_) (fun hb => ?_) <;> (try simp only [decide_eq_true_eq, decide_eq_false_iff_not, Bool.not_eq_true', Bool.not_eq_false', Bool.and_eq_true, Bool.or_eq_true, beq_iff_eq, not_and, Int.not_le, Int.not_lt, Int.toNat_natCast, beq_eq_false_iff_ne, ne_eq, eq_self, not_true_eq_false, not_false_eq_true] at hb) <;> (conv => whnf))
      | (refine RegX.rule (id := 14) hT rfl [] [(0, []), (1, [0]), (2, [0, 1]), (3, [0, 1, 2]), (4, [0, 1, 2, 3]), (5, [0, 1, 2, 3]), (6, [0, 1, 2, 3]), (7, [0, 1, 2, 3]), (8, [0, 1, 2, 3]), (10, [0, 1, 2, 3, 4, 5, 6, 7, 8]), (11, [0, 1, 2, 3, 4, 5, 6, 7, 8, 10]), (12, [0, 1, 2, 3, 4, 5, 6, 7, 8, 10]), (13, [0, 1, 2, 3, 4, 5, 6, 7, 8, 10]), (14, [0, 1, 2, 3, 4, 5, 6, 7, 8, 10]), (15, [0, 1, 2, 3, 4, 5, 6, 7, 8, 10]), (17, [0, 1, 2, 3, 4, 5, 6, 7, 8, 10, 11, 12, 13, 14, 15]), (9, [0, 1, 2, 10, 11, 12, 13, 14, 15, 17]), (16, [0, 1, 2, 17]), (18, [0, 1, 2]), (19, [1, 2]), (20, [1, 2]), (21, [1, 2]), (22, [2]), (23, [2]), (24, [2]), (25, []), (26, []), (27, [])] (by decide +kernel) ?_; conv => whnf)
      | omega
      | (refine And.intro ?_ ?_; ((try dsimp only); first | omega | (refine ⟨by omega, by omega, Int.le_trans (Int.mul_le_mul_of_nonneg_right (Int.ofNat_le.2 (Nat.le_of_ble_eq_true (rfl : Nat.ble _ 1024 = true))) (by omega)) (by omega), by omega⟩) | (refine Nat.le_trans (Nat.mul_le_mul_left _ (Nat.le_of_ble_eq_true (rfl : Nat.ble _ 1024 = true))) ?_; omega) | (unfold inI64; omega) | (constructor <;> omega) | (simp only [inI64, List.length_cons, List.length_append, List.length_nil, List.length_set] at *; omega) | decide | (unfold inI64; decide)); conv => whnf)
      | omega | decide | assumption)
    all_goals first
      | (refine ⟨(_, j + 1, l ++ [⟨tE.getD i [], tE.getD j [], u1, u2⟩]), ⟨⟨by omega, ?_, by omega⟩, allK_snoc r4 (by omega) ⟨Nat.le_trans tE_len (by decide), Nat.le_trans tE_len (by decide)⟩⟩, (show 5 - (j + 1) < 5 - j by omega), Entails.mk' [(1000000, 1000000), (3, 40)] rfl rfl ⟨SV.le_refl _, SV.le_refl _, SV.le_refl _, SV.le_refl _, SV.le_refl _, SV.le_refl _, SV.le_refl _, SV.le_refl _, SV.le_refl _, trivial⟩ ⟨Res.le_refl _, Res.le_snocF rfl, trivial⟩⟩
         show _ ≤ a + 15 * (i : Int) + 3 * ((j + 1 : Nat) : Int)
         omega)
      | (refine ⟨(_, j + 1, l), ⟨⟨by omega, ?_, by omega⟩, allK_le r4 (by omega)⟩, (show 5 - (j + 1) < 5 - j by omega), Entails.mk' [(1000000, 1000000), (3, 3)] rfl rfl ⟨SV.le_refl _, SV.le_refl _, SV.le_refl _, SV.le_refl _, SV.le_refl _, SV.le_refl _, SV.le_refl _, SV.le_refl _, SV.le_refl _, trivial⟩ ⟨Res.le_refl _, Res.le_refl _, trivial⟩⟩
         show _ ≤ a + 15 * (i : Int) + 3 * ((j + 1 : Nat) : Int)
         omega)
      | (refine ⟨(c, i + 1, l), ⟨⟨by omega, by show c ≤ a + 15 * ((i + 1 : Nat) : Int); omega, by omega⟩, allK_le r4 (by omega)⟩, (show 5 - (i + 1) < 5 - i by omega), Entails.mk' [(1000000, 1000000), (3, 3)] rfl rfl ⟨SV.le_refl _, SV.le_refl _, SV.le_refl _, SV.le_refl _, SV.le_refl _, trivial⟩ ⟨Res.le_refl _, Res.le_refl _, trivial⟩⟩)
  all_goals
    have p5 : allK rdS 25 l := allK_le p4 (by omega)
    have hl25 := p5.1
    repeat' (first
      | (refine CallX.of (s84 n L hL _ ?_ ?_ _ ?_) [(1000000, 1000000)] rfl ⟨SV.le_refl _, SV.le_refl _, trivial⟩ ⟨Res.le_refl _, trivial⟩ rfl rfl ?_; rotate_right; rintro x rout ⟨⟨f, rfl⟩, ⟨c, c1, c2, rfl⟩⟩; refine ⟨rfl, ?_⟩; conv => whnf)
      | (refine CallX.of (s86 n L hL _ ?_ ?_ _ ?_) [(1000000, 1000000)] rfl ⟨SV.le_refl _, SV.le_refl _, trivial⟩ ⟨Res.le_refl _, trivial⟩ rfl rfl ?_; rotate_right; rintro x rout ⟨⟨j, hj1, hj2, hj3, rfl⟩, ⟨c, c1, c2, rfl⟩⟩; refine ⟨rfl, ?_⟩; conv => whnf)
      | (refine CallX.of (s15 n L hL _ ?_ ?_ [(l.getD j.toNat rd0).a, [], [98]] (by simp) (by simp)) [(1000000, 1000000)] rfl ⟨SV.le_refl _, SV.le_lit rfl rfl, trivial⟩ ⟨Res.le_refl _, trivial⟩ rfl rfl ?_; rotate_right; rintro x rout ⟨⟨u1, hu1, rfl⟩, ⟨c, c1, c2, rfl⟩⟩; refine ⟨rfl, ?_⟩; conv => whnf)
      | (refine CallX.of (s15 n L hL _ ?_ ?_ [(l.getD j.toNat rd0).b, [65], [98]] (by simp) (by simp)) [(1000000, 1000000)] rfl ⟨SV.le_refl _, SV.le_lit rfl rfl, trivial⟩ ⟨Res.le_refl _, trivial⟩ rfl rfl ?_; rotate_right; rintro x rout ⟨⟨u2, hu2, rfl⟩, ⟨c, c1, c2, rfl⟩⟩; refine ⟨rfl, ?_⟩; conv => whnf)
      | (refine CallX.of (s104 n L hL _ ?_ ?_ 0 1000000 ?_ ?_ ?_) [(1000000, 1000000)] rfl ⟨SV.le_refl _, SV.le_refl _, SV.le_refl _, trivial⟩ ⟨Res.le_refl _, trivial⟩ rfl rfl ?_; rotate_right; rintro x rout ⟨⟨u3, hk1, hk2, rfl⟩, ⟨c, c1, c2, rfl⟩⟩; refine ⟨rfl, ?_⟩; conv => whnf)
      | (refine br_intro (fun hb => ?_) (fun hb => ?_) <;> (try simp only [decide_eq_true_eq, decide_eq_false_iff_not, Bool.not_eq_true', Bool.not_eq_false', Bool.and_eq_true, Bool.or_eq_true, beq_iff_eq, not_and, Int.not_le, Int.not_lt, Int.toNat_natCast, beq_eq_false_iff_ne, ne_eq, eq_self, not_true_eq_false, not_false_eq_true] at hb) <;> (conv => whnf))
      | (refine RegX.rule (id := 14) hT rfl [] [(0, []), (1, [0]), (2, [0, 1]), (3, [0, 1, 2]), (4, [0, 1, 2, 3]), (5, [0, 1, 2, 3]), (6, [0, 1, 2, 3]), (7, [0, 1, 2, 3]), (8, [0, 1, 2, 3]), (10, [0, 1, 2, 3, 4, 5, 6, 7, 8]), (11, [0, 1, 2, 3, 4, 5, 6, 7, 8, 10]), (12, [0, 1, 2, 3, 4, 5, 6, 7, 8, 10]), (13, [0, 1, 2, 3, 4, 5, 6, 7, 8, 10]), (14, [0, 1, 2, 3, 4, 5, 6, 7, 8, 10]), (15, [0, 1, 2, 3, 4, 5, 6, 7, 8, 10]), (17, [0, 1, 2, 3, 4, 5, 6, 7, 8, 10, 11, 12, 13, 14, 15]), (9, [0, 1, 2, 10, 11, 12, 13, 14, 15, 17]), (16, [0, 1, 2, 17]), (18, [0, 1, 2]), (19, [1, 2]), (20, [1, 2]), (21, [1, 2]), (22, [2]), (23, [2]), (24, [2]), (25, []), (26, []), (27, [])] (by decide +kernel) ?_; conv => whnf)
      | omega
      | (refine And.intro ?_ ?_; ((try dsimp only); first | omega | (refine ⟨by omega, by omega, Int.le_trans (Int.mul_le_mul_of_nonneg_right (Int.ofNat_le.2 (Nat.le_of_ble_eq_true (rfl : Nat.ble _ 1024 = true))) (by omega)) (by omega), by omega⟩) | (refine Nat.le_trans (Nat.mul_le_mul_left _ (Nat.le_of_ble_eq_true (rfl : Nat.ble _ 1024 = true))) ?_; omega) | (unfold inI64; omega) | (constructor <;> omega) | (simp only [inI64, List.length_cons, List.length_append, List.length_nil, List.length_set] at *; omega) | decide | (unfold inI64; decide)); conv => whnf)
      | omega | decide | assumption)
  all_goals first
    | (refine .freeze _ 3 146 4 _ _ rfl (.weak _ ?_)
       (conv => whnf)
       have hx := p5.2 (l.getD j.toNat rd0) (getD_mem (by omega))
       have hq1 := three_len hu1 hx.1 (by decide) (by decide)
       have hq2 := three_len hu2 hx.2 (by decide) (by decide)
       exact ⟨_, [(1000000, strm n L _)], SV.le_upd3 (f := rdF) (d := rd0) (fun y : Roa => { y with a := u1 }) (fun y => { y with b := u2 }) (fun y => { y with car := u3 }) (fun _ => rfl) (fun _ => rfl) (fun _ => rfl), ⟨⟨_, allK_upd (g := fun y : Roa => { y with car := u3 }) (allK_upd (g := fun y : Roa => { y with b := u2 }) (allK_upd (g := fun y : Roa => { y with a := u1 }) p5 (fun y hy => ⟨hq1, hy.2⟩)) (fun y hy => ⟨hy.1, hq2⟩)) (fun y hy => hy), rfl⟩, _, by omega, by omega, rfl⟩, Res.le_refl _, trivial⟩)
    | (refine .freeze _ 3 146 4 _ _ rfl (.weak _ ?_)
       (conv => whnf)
       exact ⟨_, [(1000000, strm n L _)], SV.le_refl _, ⟨⟨l, p5, rfl⟩, _, by omega, by omega, rfl⟩, Res.le_refl _, trivial⟩)
end Go.Proofs.YtnkdlkgannnfhaaGreatDoor
set_option maxRecDepth 20000
namespace Go.Proofs.YtnkdlkgannnfhaaGreatDoor
open Go Go.Eng
-- Clone of no roads
theorem z97n : FSpec Tryz.prog 97 [.d .nilsl] [] (fun y r => y = .d .nilsl ∧ r = []) := by
  refine spec_of hT (C := []) Tryz.func97 rfl Tryz.call97 rfl rfl rfl ?_
  conv => whnf
  repeat' (first
    | (refine br_intro (fun hb => ?_) (fun hb => ?_) <;> (try simp only [decide_eq_true_eq, decide_eq_false_iff_not, Bool.not_eq_true', Bool.not_eq_false', Bool.and_eq_true, Bool.or_eq_true, beq_iff_eq, not_and, Int.not_le, Int.not_lt, Int.toNat_natCast, beq_eq_false_iff_ne, ne_eq, eq_self, not_true_eq_false, not_false_eq_true] at hb) <;> (conv => whnf))
    | omega
    | (refine And.intro ?_ ?_; ((try dsimp only); first | omega | (refine ⟨by omega, by omega, Int.le_trans (Int.mul_le_mul_of_nonneg_right (Int.ofNat_le.2 (Nat.le_of_ble_eq_true (rfl : Nat.ble _ 1024 = true))) (by omega)) (by omega), by omega⟩) | (refine Nat.le_trans (Nat.mul_le_mul_left _ (Nat.le_of_ble_eq_true (rfl : Nat.ble _ 1024 = true))) ?_; omega) | (unfold inI64; omega) | (constructor <;> omega) | (simp only [inI64, List.length_cons, List.length_append, List.length_nil, List.length_set] at *; omega) | decide | (unfold inI64; decide)); conv => whnf)
    | omega | decide | assumption)
  refine .ret _ ?_
  conv => whnf
  refine ⟨[], ⟨?_, rfl⟩, trivial⟩
  conv => lhs; whnf
-- PlanOf of nothing
set_option maxHeartbeats 4000000 in
theorem z98n : FSpec Tryz.prog 98 [.d .nilsl, .d .nilsl] [] (fun y r => y = .tup [.d .nilsl, .d (.bool true)] ∧ r = []) := by
  refine spec_of hT (C := []) Tryz.func98 rfl Tryz.call98 rfl rfl rfl ?_
  conv => whnf
  repeat' (first
    | (refine ⟨[], ⟨rfl, fun i hi => absurd hi (by simp)⟩, ?_⟩; conv => whnf)
    | (refine LoopX.run hT (C := []) 8 rfl [0, 1, 6, 7, 19, 20, 21] [] (fun _ _ h => h) (fun _ h => h) ?_; conv => whnf)
    | (refine LoopX.run hT (C := []) 24 rfl [1, 6, 10, 46, 47, 48] [] (fun _ _ h => h) (fun _ h => h) ?_; conv => whnf)
    | (refine LoopX.run hT (C := []) 34 rfl [1, 6, 12, 13, 46, 47, 48, 57] [] (fun _ _ h => h) (fun _ h => h) ?_; conv => whnf)
    | (refine br_intro (fun hb => ?_) (fun hb => ?_) <;> (try simp only [decide_eq_true_eq, decide_eq_false_iff_not, Bool.not_eq_true', Bool.not_eq_false', Bool.and_eq_true, Bool.or_eq_true, beq_iff_eq, not_and, Int.not_le, Int.not_lt, Int.toNat_natCast, beq_eq_false_iff_ne, ne_eq, eq_self, not_true_eq_false, not_false_eq_true] at hb) <;> (conv => whnf))
    | omega
    | (refine And.intro ?_ ?_; ((try dsimp only); first | omega | (refine ⟨by omega, by omega, Int.le_trans (Int.mul_le_mul_of_nonneg_right (Int.ofNat_le.2 (Nat.le_of_ble_eq_true (rfl : Nat.ble _ 1024 = true))) (by omega)) (by omega), by omega⟩) | (refine Nat.le_trans (Nat.mul_le_mul_left _ (Nat.le_of_ble_eq_true (rfl : Nat.ble _ 1024 = true))) ?_; omega) | (unfold inI64; omega) | (constructor <;> omega) | (simp only [inI64, List.length_cons, List.length_append, List.length_nil, List.length_set] at *; omega) | decide | (unfold inI64; decide)); conv => whnf)
    | omega | decide | assumption)
  refine .ret _ ?_
  conv => whnf
  refine ⟨[], ⟨congrArg SV.tup ?_, rfl⟩, trivial⟩
  repeat' (refine cons_eq ?_ ?_)
  all_goals (conv => lhs; whnf)
  all_goals try (with_reducible rfl)
  all_goals rfl
end Go.Proofs.YtnkdlkgannnfhaaGreatDoor
set_option maxRecDepth 20000
namespace Go.Proofs.YtnkdlkgannnfhaaGreatDoor
open Go Go.Eng
def mvG (x : Mov) : Prop := x.a.length ≤ 8 ∧ x.b.length ≤ 8
-- Moves of nothing
set_option maxHeartbeats 8000000 in
theorem sMov (n : Nat) (L : Nat → Int) (hL : Rok n L) (a : Int) (h0 : 0 ≤ a) (ha : a ≤ 2^35) :
    FSpec Tryz.prog 18 [.ptr 1000000 0, .d .nilsl, .d .nilsl] [(1000000, strm n L a)] (fun y r => (∃ l : List Mov, allK mvG 5 l ∧ y = .d (movs l)) ∧ Moved n L a 60 r) := by
  have h20 := z20 [] ⟨by simp, fun x hx => by cases hx⟩
  rw [show ndsE [] = 0 from rfl] at h20
  have h21 := z21 [] ⟨by simp, fun x hx => by cases hx⟩
  rw [show rdsE [] = 0 from rfl] at h21
  refine spec_of hT (C := []) Tryz.func18 rfl Tryz.call18 rfl rfl rfl ?_
  conv => whnf
  repeat' (first
    | (refine CallX.pure h20 ⟨SV.le_nilS, trivial⟩ rfl ?_; conv => whnf)
    | (refine CallX.pure h21 ⟨SV.le_nilS, trivial⟩ rfl ?_; conv => whnf)
    | (refine CallX.of (s84 n L hL _ ?_ ?_ _ ?_) [(1000000, 1000000)] rfl ⟨SV.le_refl _, SV.le_refl _, trivial⟩ ⟨Res.le_refl _, trivial⟩ rfl rfl ?_; rotate_right; rintro x rout ⟨⟨f, rfl⟩, ⟨c, c1, c2, rfl⟩⟩; refine ⟨rfl, ?_⟩; conv => whnf)
    | (refine CallX.exact (z97n) rfl rfl ?_; rotate_right; conv => whnf)
    | (refine br_intro (fun hb => ?_) (fun hb => ?_) <;> (try simp only [decide_eq_true_eq, decide_eq_false_iff_not, Bool.not_eq_true', Bool.not_eq_false', Bool.and_eq_true, Bool.or_eq_true, beq_iff_eq, not_and, Int.not_le, Int.not_lt, Int.toNat_natCast, beq_eq_false_iff_ne, ne_eq, eq_self, not_true_eq_false, not_false_eq_true] at hb) <;> (conv => whnf))
    | (refine RegX.rule (id := 11) hT rfl [] [(0, []), (1, [0]), (2, [0, 1]), (3, [0, 1]), (8, [0, 1, 2, 3]), (9, [0, 1, 2, 3, 8]), (4, [0, 8, 9]), (5, [8, 9]), (6, [8, 9]), (7, [8, 9]), (10, [0, 5, 6, 7]), (11, []), (12, []), (13, []), (14, [])] (by decide +kernel) ?_; conv => whnf)
    | (refine RegX.rule (id := 16) hT rfl [] [(0, []), (1, [0]), (2, [0, 1]), (4, [0, 1, 2]), (5, [0, 1, 2, 4]), (7, [0, 1, 2, 4, 5]), (8, [0, 1, 2, 4, 5, 7]), (3, [0, 4, 5, 7, 8]), (6, [0, 7, 8]), (9, [0]), (10, [0]), (11, [0]), (12, []), (13, [])] (by decide +kernel) ?_; conv => whnf)
    | (refine RegX.rule (id := 23) hT rfl [] [(0, []), (1, [0]), (2, [0, 1]), (3, [0, 1, 2]), (4, [0, 1, 2]), (5, [0, 1, 2]), (6, [0, 1, 2]), (7, [0, 1, 2]), (9, [0, 1, 2, 3, 4, 5, 6, 7]), (8, [0, 1, 9]), (10, [0, 1]), (11, [1]), (12, [1]), (13, [1]), (14, []), (15, []), (16, [])] (by decide +kernel) ?_; conv => whnf)
    | omega
    | (refine And.intro ?_ ?_; ((try dsimp only); first | omega | (refine ⟨by omega, by omega, Int.le_trans (Int.mul_le_mul_of_nonneg_right (Int.ofNat_le.2 (Nat.le_of_ble_eq_true (rfl : Nat.ble _ 1024 = true))) (by omega)) (by omega), by omega⟩) | (refine Nat.le_trans (Nat.mul_le_mul_left _ (Nat.le_of_ble_eq_true (rfl : Nat.ble _ 1024 = true))) ?_; omega) | (unfold inI64; omega) | (constructor <;> omega) | (simp only [inI64, List.length_cons, List.length_append, List.length_nil, List.length_set] at *; omega) | decide | (unfold inI64; decide)); conv => whnf)
    | omega | decide | assumption)
  · refine LoopX.unroll hT (C := []) (fun _ _ h => h) (fun _ h => h) ?_
    conv => whnf
    repeat' (first
      | (refine CallX.exact (z98n) rfl rfl ?_; rotate_right; conv => whnf)
      | (refine CallX.of (s84 n L hL _ ?_ ?_ _ ?_) [(1000000, 1000000)] rfl ⟨SV.le_refl _, SV.le_refl _, trivial⟩ ⟨Res.le_refl _, trivial⟩ rfl rfl ?_; rotate_right; rintro x rout ⟨⟨f, rfl⟩, ⟨c, c1, c2, rfl⟩⟩; refine ⟨rfl, ?_⟩; conv => whnf)
      | (refine br_intro (fun hb => ?_) (fun hb => ?_) <;> (try simp only [decide_eq_true_eq, decide_eq_false_iff_not, Bool.not_eq_true', Bool.not_eq_false', Bool.and_eq_true, Bool.or_eq_true, beq_iff_eq, not_and, Int.not_le, Int.not_lt, Int.toNat_natCast, beq_eq_false_iff_ne, ne_eq, eq_self, not_true_eq_false, not_false_eq_true] at hb) <;> (conv => whnf))
      | (refine RegX.rule (id := 11) hT rfl [] [(0, []), (1, [0]), (2, [0, 1]), (3, [0, 1]), (8, [0, 1, 2, 3]), (9, [0, 1, 2, 3, 8]), (4, [0, 8, 9]), (5, [8, 9]), (6, [8, 9]), (7, [8, 9]), (10, [0, 5, 6, 7]), (11, []), (12, []), (13, []), (14, [])] (by decide +kernel) ?_; conv => whnf)
      | (refine RegX.rule (id := 16) hT rfl [] [(0, []), (1, [0]), (2, [0, 1]), (4, [0, 1, 2]), (5, [0, 1, 2, 4]), (7, [0, 1, 2, 4, 5]), (8, [0, 1, 2, 4, 5, 7]), (3, [0, 4, 5, 7, 8]), (6, [0, 7, 8]), (9, [0]), (10, [0]), (11, [0]), (12, []), (13, [])] (by decide +kernel) ?_; conv => whnf)
      | (refine RegX.rule (id := 23) hT rfl [] [(0, []), (1, [0]), (2, [0, 1]), (3, [0, 1, 2]), (4, [0, 1, 2]), (5, [0, 1, 2]), (6, [0, 1, 2]), (7, [0, 1, 2]), (9, [0, 1, 2, 3, 4, 5, 6, 7]), (8, [0, 1, 9]), (10, [0, 1]), (11, [1]), (12, [1]), (13, [1]), (14, []), (15, []), (16, [])] (by decide +kernel) ?_; conv => whnf)
      | omega
      | (refine And.intro ?_ ?_; ((try dsimp only); first | omega | (refine ⟨by omega, by omega, Int.le_trans (Int.mul_le_mul_of_nonneg_right (Int.ofNat_le.2 (Nat.le_of_ble_eq_true (rfl : Nat.ble _ 1024 = true))) (by omega)) (by omega), by omega⟩) | (refine Nat.le_trans (Nat.mul_le_mul_left _ (Nat.le_of_ble_eq_true (rfl : Nat.ble _ 1024 = true))) ?_; omega) | (unfold inI64; omega) | (constructor <;> omega) | (simp only [inI64, List.length_cons, List.length_append, List.length_nil, List.length_set] at *; omega) | decide | (unfold inI64; decide)); conv => whnf)
      | omega | decide | assumption)
    refine .weak _ ?_
    conv => whnf
    exact ⟨_, [(1000000, strm n L _)], SV.le_nilS, ⟨⟨[], ⟨by simp, fun x hx => by cases hx⟩, rfl⟩, _, by omega, by omega, rfl⟩, Res.le_refl _, trivial⟩
  repeat' (first
    | (refine CallX.of (s64 n L hL _ ?_ ?_ 0 5 ?_ ?_ ?_ ?_) [(1000000, 1000000)] rfl ⟨SV.le_refl _, SV.le_refl _, SV.le_refl _, trivial⟩ ⟨Res.le_refl _, trivial⟩ rfl rfl ?_; rotate_right; rintro x rout ⟨⟨k, hk1, hk2, rfl⟩, ⟨c, c1, c2, rfl⟩⟩; refine ⟨rfl, ?_⟩; conv => whnf)
    | (refine br_intro (fun hb => ?_) (fun hb => ?_) <;> (try simp only [decide_eq_true_eq, decide_eq_false_iff_not, Bool.not_eq_true', Bool.not_eq_false', Bool.and_eq_true, Bool.or_eq_true, beq_iff_eq, not_and, Int.not_le, Int.not_lt, Int.toNat_natCast, beq_eq_false_iff_ne, ne_eq, eq_self, not_true_eq_false, not_false_eq_true] at hb) <;> (conv => whnf))
    | (refine RegX.rule (id := 11) hT rfl [] [(0, []), (1, [0]), (2, [0, 1]), (3, [0, 1]), (8, [0, 1, 2, 3]), (9, [0, 1, 2, 3, 8]), (4, [0, 8, 9]), (5, [8, 9]), (6, [8, 9]), (7, [8, 9]), (10, [0, 5, 6, 7]), (11, []), (12, []), (13, []), (14, [])] (by decide +kernel) ?_; conv => whnf)
    | (refine RegX.rule (id := 16) hT rfl [] [(0, []), (1, [0]), (2, [0, 1]), (4, [0, 1, 2]), (5, [0, 1, 2, 4]), (7, [0, 1, 2, 4, 5]), (8, [0, 1, 2, 4, 5, 7]), (3, [0, 4, 5, 7, 8]), (6, [0, 7, 8]), (9, [0]), (10, [0]), (11, [0]), (12, []), (13, [])] (by decide +kernel) ?_; conv => whnf)
    | (refine RegX.rule (id := 23) hT rfl [] [(0, []), (1, [0]), (2, [0, 1]), (3, [0, 1, 2]), (4, [0, 1, 2]), (5, [0, 1, 2]), (6, [0, 1, 2]), (7, [0, 1, 2]), (9, [0, 1, 2, 3, 4, 5, 6, 7]), (8, [0, 1, 9]), (10, [0, 1]), (11, [1]), (12, [1]), (13, [1]), (14, []), (15, []), (16, [])] (by decide +kernel) ?_; conv => whnf)
    | omega
    | (refine And.intro ?_ ?_; ((try dsimp only); first | omega | (refine ⟨by omega, by omega, Int.le_trans (Int.mul_le_mul_of_nonneg_right (Int.ofNat_le.2 (Nat.le_of_ble_eq_true (rfl : Nat.ble _ 1024 = true))) (by omega)) (by omega), by omega⟩) | (refine Nat.le_trans (Nat.mul_le_mul_left _ (Nat.le_of_ble_eq_true (rfl : Nat.ble _ 1024 = true))) ?_; omega) | (unfold inI64; omega) | (constructor <;> omega) | (simp only [inI64, List.length_cons, List.length_append, List.length_nil, List.length_set] at *; omega) | decide | (unfold inI64; decide)); conv => whnf)
    | omega | decide | assumption)
  refine LoopX.rule hT (C := []) (ι := Int × List Mov × Nat) (fun (b, l, i) => (a ≤ b ∧ b ≤ a + 2 + 3 * i ∧ (i : Int) ≤ k) ∧ allK mvG i l)
    (fun (b, l, i) => mkSt [(3, .ptr 3 0), (11, .buf 11), (70, .d (.int .i64 k)), (71, .d (.int .i64 i))] [(1000000, strm n L b), (3, .cells 23 [.ptr 1000000 0]), (11, mvB l)])
    (fun (_, _, i) => (k - i).toNat) (c, [], 0) ⟨⟨by show a ≤ c; omega, by show c ≤ a + 2 + 3 * ((0 : Nat) : Int); omega, by show ((0 : Nat) : Int) ≤ k; omega⟩, ⟨by simp, fun x hx => by cases hx⟩⟩ ?_ ?_
  · exact (Entails.nil 11 11 66 3 (rowF mvF mv0 []) rfl rfl (by decide)).trans (by (refine Entails.mk' [(1000000, 1000000), (3, 3), (11, 11)] rfl rfl ?_ ?_ <;> repeat' (first | exact True.intro | exact SV.le_refl _ | exact Res.le_refl _ | exact SV.le_int (by omega) | exact SV.le_any _ | refine And.intro ?_ ?_)); done)
  rintro ⟨b, l, i⟩ ⟨⟨p1, p2, p3⟩, p4⟩
  have p1 : a ≤ b := p1
  have p2 : b ≤ a + 2 + 3 * i := p2
  have p3 : (i : Int) ≤ k := p3
  have p4 : allK mvG i l := p4
  have hl1 := p4.1
  conv => whnf
  repeat' (first
    | (refine CallX.of (s15 n L hL _ ?_ ?_ [[97], [98], [99], [100]] (by simp) (by simp)) [(1000000, 1000000)] rfl ⟨SV.le_refl _, SV.le_lit rfl rfl, trivial⟩ ⟨Res.le_refl _, trivial⟩ rfl rfl ?_; rotate_right; rintro x rout ⟨⟨u1, hu1, rfl⟩, ⟨c, c1, c2, rfl⟩⟩; have hw1 := mem_len hu1 rfl; refine ⟨rfl, ?_⟩; conv => whnf)
    | (refine CallX.of (s15 n L hL _ ?_ ?_ [[98], [99], [100], [101]] (by simp) (by simp)) [(1000000, 1000000)] rfl ⟨SV.le_refl _, SV.le_lit rfl rfl, trivial⟩ ⟨Res.le_refl _, trivial⟩ rfl rfl ?_; rotate_right; rintro x rout ⟨⟨u2, hu2, rfl⟩, ⟨c, c1, c2, rfl⟩⟩; have hw2 := mem_len hu2 rfl; refine ⟨rfl, ?_⟩; conv => whnf)
    | (refine CallX.of (s33 n L hL _ ?_ ?_ [1, 1, 2] ?_ ?_) [(1000000, 1000000)] rfl ⟨SV.le_refl _, SV.le_lit rfl rfl, trivial⟩ ⟨Res.le_refl _, trivial⟩ rfl rfl ?_; rotate_right; rintro x rout ⟨⟨u3, hu3, rfl⟩, ⟨c, c1, c2, rfl⟩⟩; refine ⟨rfl, ?_⟩; conv => whnf)
    | (refine br_intro (fun hb => ?_) (fun hb => ?_) <;> (try simp only [decide_eq_true_eq, decide_eq_false_iff_not, Bool.not_eq_true', Bool.not_eq_false', Bool.and_eq_true, Bool.or_eq_true, beq_iff_eq, not_and, Int.not_le, Int.not_lt, Int.toNat_natCast, beq_eq_false_iff_ne, ne_eq, eq_self, not_true_eq_false, not_false_eq_true] at hb) <;> (conv => whnf))
    | (refine RegX.rule (id := 11) hT rfl [] [(0, []), (1, [0]), (2, [0, 1]), (3, [0, 1]), (8, [0, 1, 2, 3]), (9, [0, 1, 2, 3, 8]), (4, [0, 8, 9]), (5, [8, 9]), (6, [8, 9]), (7, [8, 9]), (10, [0, 5, 6, 7]), (11, []), (12, []), (13, []), (14, [])] (by decide +kernel) ?_; conv => whnf)
    | (refine RegX.rule (id := 16) hT rfl [] [(0, []), (1, [0]), (2, [0, 1]), (4, [0, 1, 2]), (5, [0, 1, 2, 4]), (7, [0, 1, 2, 4, 5]), (8, [0, 1, 2, 4, 5, 7]), (3, [0, 4, 5, 7, 8]), (6, [0, 7, 8]), (9, [0]), (10, [0]), (11, [0]), (12, []), (13, [])] (by decide +kernel) ?_; conv => whnf)
    | (refine RegX.rule (id := 23) hT rfl [] [(0, []), (1, [0]), (2, [0, 1]), (3, [0, 1, 2]), (4, [0, 1, 2]), (5, [0, 1, 2]), (6, [0, 1, 2]), (7, [0, 1, 2]), (9, [0, 1, 2, 3, 4, 5, 6, 7]), (8, [0, 1, 9]), (10, [0, 1]), (11, [1]), (12, [1]), (13, [1]), (14, []), (15, []), (16, [])] (by decide +kernel) ?_; conv => whnf)
    | omega
    | (refine And.intro ?_ ?_; ((try dsimp only); first | omega | (refine ⟨by omega, by omega, Int.le_trans (Int.mul_le_mul_of_nonneg_right (Int.ofNat_le.2 (Nat.le_of_ble_eq_true (rfl : Nat.ble _ 1024 = true))) (by omega)) (by omega), by omega⟩) | (refine Nat.le_trans (Nat.mul_le_mul_left _ (Nat.le_of_ble_eq_true (rfl : Nat.ble _ 1024 = true))) ?_; omega) | (unfold inI64; omega) | (constructor <;> omega) | (simp only [inI64, List.length_cons, List.length_append, List.length_nil, List.length_set] at *; omega) | decide | (unfold inI64; decide)); conv => whnf)
    | omega | decide | assumption)
  · refine ⟨(_, l ++ [⟨u1, u2, u3⟩], i + 1), ⟨⟨by omega, ?_, by omega⟩, allK_snoc p4 (by omega) ⟨hw1, hw2⟩⟩, (show (k - ((i + 1 : Nat) : Int)).toNat < (k - (i : Int)).toNat by omega), Entails.mk' [(1000000, 1000000), (3, 3), (11, 85)] rfl rfl ⟨SV.le_refl _, SV.le_refl _, SV.le_refl _, SV.le_refl _, trivial⟩ ⟨Res.le_refl _, Res.le_refl _, Res.le_snocF rfl, trivial⟩⟩
    show _ ≤ a + 2 + 3 * ((i + 1 : Nat) : Int)
    omega
  have hl5 : l.length ≤ 5 := by omega
  have hi5 : i ≤ 5 := by omega
  refine CallX.of (z99 100 (fun x y => cmpS (mvKey x) (mvKey y)) l (by omega) (fun x y hx hy => z100 x y (p4.2 x hx) (p4.2 y hy))) [(1000001, 11)] rfl ⟨SV.le_refl _, SV.le_refl _, trivial⟩ ⟨Res.le_refl _, trivial⟩ rfl rfl ?_
  rintro x rout ⟨rfl, c1, hc1, rfl⟩
  refine ⟨rfl, ?_⟩
  have hcl1 : c1.length ≤ 5 := by have := hc1.1; omega
  conv => whnf
  refine CallX.of (z102 103 (fun x y => x.a == y.a && x.b == y.b) c1 (by omega) (fun x y _ _ => z103 x y)) [(1000001, 11), (64, 200)] rfl ⟨SV.le_refl _, SV.le_refl _, trivial⟩ ⟨Res.le_refl _, trivial⟩ rfl rfl ?_
  rintro x rout ⟨c2, hc2, nm, hnm, rfl, rfl⟩
  have hcl2 : c2.length ≤ 5 := by have := hc2.1; omega
  rcases hnm with rfl | rfl
  · refine ⟨rfl, ?_⟩
    conv => whnf
    refine CallX.of (z104 n L hL b (by omega) (by omega) c2 (by omega)) [(1000000, 1000000), (1000001, 11), (1000002, 3), (41, 300)] rfl ⟨SV.le_refl _, SV.le_refl _, trivial⟩ ⟨Res.le_refl _, Res.le_refl _, Res.le_refl _, trivial⟩ rfl rfl ?_
    rintro x rout ⟨e, he1, nm, hnm, rfl, c5, ⟨hv1, hv2⟩, rfl⟩
    rcases hnm with rfl | rfl
    · refine ⟨rfl, ?_⟩
      conv => whnf
      have hsh : allK mvG 5 e := ⟨by have := hc1.1; have := hc2.1; have := he1.1; omega, fun p hp => p4.2 p (hc1.2 p (hc2.2 p (he1.2 p hp)))⟩
      have he5 := hsh.1
      repeat' (first
        | (refine CallX.of (s84 n L hL _ ?_ ?_ _ ?_) [(1000000, 1000000)] rfl ⟨SV.le_refl _, SV.le_refl _, trivial⟩ ⟨Res.le_refl _, trivial⟩ rfl rfl ?_; rotate_right; rintro x rout ⟨⟨f, rfl⟩, ⟨c, c1, c2, rfl⟩⟩; refine ⟨rfl, ?_⟩; conv => whnf)
        | (refine CallX.of (s86 n L hL _ ?_ ?_ _ ?_) [(1000000, 1000000)] rfl ⟨SV.le_refl _, SV.le_refl _, trivial⟩ ⟨Res.le_refl _, trivial⟩ rfl rfl ?_; rotate_right; rintro x rout ⟨⟨j, hj1, hj2, hj3, rfl⟩, ⟨c, c1, c2, rfl⟩⟩; refine ⟨rfl, ?_⟩; conv => whnf)
        | (refine CallX.of (s15 n L hL _ ?_ ?_ [(e.getD j.toNat mv0).a, [], [122]] (by simp) (by simp)) [(1000000, 1000000)] rfl ⟨SV.le_refl _, SV.le_lit rfl rfl, trivial⟩ ⟨Res.le_refl _, trivial⟩ rfl rfl ?_; rotate_right; rintro x rout ⟨⟨u1, hu1, rfl⟩, ⟨c, c1, c2, rfl⟩⟩; refine ⟨rfl, ?_⟩; conv => whnf)
        | (refine CallX.of (s104 n L hL _ ?_ ?_ 1 20 ?_ ?_ ?_) [(1000000, 1000000)] rfl ⟨SV.le_refl _, SV.le_refl _, SV.le_refl _, trivial⟩ ⟨Res.le_refl _, trivial⟩ rfl rfl ?_; rotate_right; rintro x rout ⟨⟨u3, hk1, hk2, rfl⟩, ⟨c, c1, c2, rfl⟩⟩; refine ⟨rfl, ?_⟩; conv => whnf)
        | (refine br_intro (fun hb => ?_) (fun hb => ?_) <;> (try simp only [decide_eq_true_eq, decide_eq_false_iff_not, Bool.not_eq_true', Bool.not_eq_false', Bool.and_eq_true, Bool.or_eq_true, beq_iff_eq, not_and, Int.not_le, Int.not_lt, Int.toNat_natCast, beq_eq_false_iff_ne, ne_eq, eq_self, not_true_eq_false, not_false_eq_true] at hb) <;> (conv => whnf))
        | (refine RegX.rule (id := 11) hT rfl [] [(0, []), (1, [0]), (2, [0, 1]), (3, [0, 1]), (8, [0, 1, 2, 3]), (9, [0, 1, 2, 3, 8]), (4, [0, 8, 9]), (5, [8, 9]), (6, [8, 9]), (7, [8, 9]), (10, [0, 5, 6, 7]), (11, []), (12, []), (13, []), (14, [])] (by decide +kernel) ?_; conv => whnf)
        | (refine RegX.rule (id := 16) hT rfl [] [(0, []), (1, [0]), (2, [0, 1]), (4, [0, 1, 2]), (5, [0, 1, 2, 4]), (7, [0, 1, 2, 4, 5]), (8, [0, 1, 2, 4, 5, 7]), (3, [0, 4, 5, 7, 8]), (6, [0, 7, 8]), (9, [0]), (10, [0]), (11, [0]), (12, []), (13, [])] (by decide +kernel) ?_; conv => whnf)
        | (refine RegX.rule (id := 23) hT rfl [] [(0, []), (1, [0]), (2, [0, 1]), (3, [0, 1, 2]), (4, [0, 1, 2]), (5, [0, 1, 2]), (6, [0, 1, 2]), (7, [0, 1, 2]), (9, [0, 1, 2, 3, 4, 5, 6, 7]), (8, [0, 1, 9]), (10, [0, 1]), (11, [1]), (12, [1]), (13, [1]), (14, []), (15, []), (16, [])] (by decide +kernel) ?_; conv => whnf)
        | omega
        | (refine And.intro ?_ ?_; ((try dsimp only); first | omega | (refine ⟨by omega, by omega, Int.le_trans (Int.mul_le_mul_of_nonneg_right (Int.ofNat_le.2 (Nat.le_of_ble_eq_true (rfl : Nat.ble _ 1024 = true))) (by omega)) (by omega), by omega⟩) | (refine Nat.le_trans (Nat.mul_le_mul_left _ (Nat.le_of_ble_eq_true (rfl : Nat.ble _ 1024 = true))) ?_; omega) | (unfold inI64; omega) | (constructor <;> omega) | (simp only [inI64, List.length_cons, List.length_append, List.length_nil, List.length_set] at *; omega) | decide | (unfold inI64; decide)); conv => whnf)
        | omega | decide | assumption)
      all_goals first
        | (first
             | refine .freeze _ 11 66 3 _ _ rfl (.weak _ ?_)
             | refine .freeze _ 200 66 3 _ _ rfl (.weak _ ?_)
             | refine .freeze _ 300 66 3 _ _ rfl (.weak _ ?_)
           (conv => whnf)
           have hx := hsh.2 (e.getD j.toNat mv0) (getD_mem (by omega))
           have hq1 := three_len hu1 hx.1 (by decide) (by decide)
           exact ⟨_, [(1000000, strm n L _)], SV.le_upd2 (f := mvF) (d := mv0) (l := e) (fun y : Mov => { y with a := u1 }) (fun y => { y with many := u3 }) (fun _ => rfl) (fun _ => rfl), ⟨⟨_, allK_upd (g := fun y : Mov => { y with many := u3 }) (allK_upd (g := fun y : Mov => { y with a := u1 }) hsh (fun y hy => ⟨hq1, hy.2⟩)) (fun y hy => hy), rfl⟩, _, by omega, by omega, rfl⟩, Res.le_refl _, trivial⟩)
        | (first
             | refine .freeze _ 11 66 3 _ _ rfl (.weak _ ?_)
             | refine .freeze _ 200 66 3 _ _ rfl (.weak _ ?_)
             | refine .freeze _ 300 66 3 _ _ rfl (.weak _ ?_)
           (conv => whnf)
           exact ⟨_, [(1000000, strm n L _)], SV.le_refl _, ⟨⟨e, hsh, rfl⟩, _, by omega, by omega, rfl⟩, Res.le_refl _, trivial⟩)
    · refine ⟨rfl, ?_⟩
      conv => whnf
      have hsh : allK mvG 5 e := ⟨by have := hc1.1; have := hc2.1; have := he1.1; omega, fun p hp => p4.2 p (hc1.2 p (hc2.2 p (he1.2 p hp)))⟩
      have he5 := hsh.1
      repeat' (first
        | (refine CallX.of (s84 n L hL _ ?_ ?_ _ ?_) [(1000000, 1000000)] rfl ⟨SV.le_refl _, SV.le_refl _, trivial⟩ ⟨Res.le_refl _, trivial⟩ rfl rfl ?_; rotate_right; rintro x rout ⟨⟨f, rfl⟩, ⟨c, c1, c2, rfl⟩⟩; refine ⟨rfl, ?_⟩; conv => whnf)
        | (refine CallX.of (s86 n L hL _ ?_ ?_ _ ?_) [(1000000, 1000000)] rfl ⟨SV.le_refl _, SV.le_refl _, trivial⟩ ⟨Res.le_refl _, trivial⟩ rfl rfl ?_; rotate_right; rintro x rout ⟨⟨j, hj1, hj2, hj3, rfl⟩, ⟨c, c1, c2, rfl⟩⟩; refine ⟨rfl, ?_⟩; conv => whnf)
        | (refine CallX.of (s15 n L hL _ ?_ ?_ [(e.getD j.toNat mv0).a, [], [122]] (by simp) (by simp)) [(1000000, 1000000)] rfl ⟨SV.le_refl _, SV.le_lit rfl rfl, trivial⟩ ⟨Res.le_refl _, trivial⟩ rfl rfl ?_; rotate_right; rintro x rout ⟨⟨u1, hu1, rfl⟩, ⟨c, c1, c2, rfl⟩⟩; refine ⟨rfl, ?_⟩; conv => whnf)
        | (refine CallX.of (s104 n L hL _ ?_ ?_ 1 20 ?_ ?_ ?_) [(1000000, 1000000)] rfl ⟨SV.le_refl _, SV.le_refl _, SV.le_refl _, trivial⟩ ⟨Res.le_refl _, trivial⟩ rfl rfl ?_; rotate_right; rintro x rout ⟨⟨u3, hk1, hk2, rfl⟩, ⟨c, c1, c2, rfl⟩⟩; refine ⟨rfl, ?_⟩; conv => whnf)
        | (refine br_intro (fun hb => ?_) (fun hb => ?_) <;> (try simp only [decide_eq_true_eq, decide_eq_false_iff_not, Bool.not_eq_true', Bool.not_eq_false', Bool.and_eq_true, Bool.or_eq_true, beq_iff_eq, not_and, Int.not_le, Int.not_lt, Int.toNat_natCast, beq_eq_false_iff_ne, ne_eq, eq_self, not_true_eq_false, not_false_eq_true] at hb) <;> (conv => whnf))
        | (refine RegX.rule (id := 11) hT rfl [] [(0, []), (1, [0]), (2, [0, 1]), (3, [0, 1]), (8, [0, 1, 2, 3]), (9, [0, 1, 2, 3, 8]), (4, [0, 8, 9]), (5, [8, 9]), (6, [8, 9]), (7, [8, 9]), (10, [0, 5, 6, 7]), (11, []), (12, []), (13, []), (14, [])] (by decide +kernel) ?_; conv => whnf)
        | (refine RegX.rule (id := 16) hT rfl [] [(0, []), (1, [0]), (2, [0, 1]), (4, [0, 1, 2]), (5, [0, 1, 2, 4]), (7, [0, 1, 2, 4, 5]), (8, [0, 1, 2, 4, 5, 7]), (3, [0, 4, 5, 7, 8]), (6, [0, 7, 8]), (9, [0]), (10, [0]), (11, [0]), (12, []), (13, [])] (by decide +kernel) ?_; conv => whnf)
        | (refine RegX.rule (id := 23) hT rfl [] [(0, []), (1, [0]), (2, [0, 1]), (3, [0, 1, 2]), (4, [0, 1, 2]), (5, [0, 1, 2]), (6, [0, 1, 2]), (7, [0, 1, 2]), (9, [0, 1, 2, 3, 4, 5, 6, 7]), (8, [0, 1, 9]), (10, [0, 1]), (11, [1]), (12, [1]), (13, [1]), (14, []), (15, []), (16, [])] (by decide +kernel) ?_; conv => whnf)
        | omega
        | (refine And.intro ?_ ?_; ((try dsimp only); first | omega | (refine ⟨by omega, by omega, Int.le_trans (Int.mul_le_mul_of_nonneg_right (Int.ofNat_le.2 (Nat.le_of_ble_eq_true (rfl : Nat.ble _ 1024 = true))) (by omega)) (by omega), by omega⟩) | (refine Nat.le_trans (Nat.mul_le_mul_left _ (Nat.le_of_ble_eq_true (rfl : Nat.ble _ 1024 = true))) ?_; omega) | (unfold inI64; omega) | (constructor <;> omega) | (simp only [inI64, List.length_cons, List.length_append, List.length_nil, List.length_set] at *; omega) | decide | (unfold inI64; decide)); conv => whnf)
        | omega | decide | assumption)
      all_goals first
        | (first
             | refine .freeze _ 11 66 3 _ _ rfl (.weak _ ?_)
             | refine .freeze _ 200 66 3 _ _ rfl (.weak _ ?_)
             | refine .freeze _ 300 66 3 _ _ rfl (.weak _ ?_)
           (conv => whnf)
           have hx := hsh.2 (e.getD j.toNat mv0) (getD_mem (by omega))
           have hq1 := three_len hu1 hx.1 (by decide) (by decide)
           exact ⟨_, [(1000000, strm n L _)], SV.le_upd2 (f := mvF) (d := mv0) (l := e) (fun y : Mov => { y with a := u1 }) (fun y => { y with many := u3 }) (fun _ => rfl) (fun _ => rfl), ⟨⟨_, allK_upd (g := fun y : Mov => { y with many := u3 }) (allK_upd (g := fun y : Mov => { y with a := u1 }) hsh (fun y hy => ⟨hq1, hy.2⟩)) (fun y hy => hy), rfl⟩, _, by omega, by omega, rfl⟩, Res.le_refl _, trivial⟩)
        | (first
             | refine .freeze _ 11 66 3 _ _ rfl (.weak _ ?_)
             | refine .freeze _ 200 66 3 _ _ rfl (.weak _ ?_)
             | refine .freeze _ 300 66 3 _ _ rfl (.weak _ ?_)
           (conv => whnf)
           exact ⟨_, [(1000000, strm n L _)], SV.le_refl _, ⟨⟨e, hsh, rfl⟩, _, by omega, by omega, rfl⟩, Res.le_refl _, trivial⟩)
  · refine ⟨rfl, ?_⟩
    conv => whnf
    refine CallX.of (z104 n L hL b (by omega) (by omega) c2 (by omega)) [(1000000, 1000000), (1000001, 200), (1000002, 3), (41, 300)] rfl ⟨SV.le_refl _, SV.le_refl _, trivial⟩ ⟨Res.le_refl _, Res.le_refl _, Res.le_refl _, trivial⟩ rfl rfl ?_
    rintro x rout ⟨e, he1, nm, hnm, rfl, c5, ⟨hv1, hv2⟩, rfl⟩
    rcases hnm with rfl | rfl
    · refine ⟨rfl, ?_⟩
      conv => whnf
      have hsh : allK mvG 5 e := ⟨by have := hc1.1; have := hc2.1; have := he1.1; omega, fun p hp => p4.2 p (hc1.2 p (hc2.2 p (he1.2 p hp)))⟩
      have he5 := hsh.1
      repeat' (first
        | (refine CallX.of (s84 n L hL _ ?_ ?_ _ ?_) [(1000000, 1000000)] rfl ⟨SV.le_refl _, SV.le_refl _, trivial⟩ ⟨Res.le_refl _, trivial⟩ rfl rfl ?_; rotate_right; rintro x rout ⟨⟨f, rfl⟩, ⟨c, c1, c2, rfl⟩⟩; refine ⟨rfl, ?_⟩; conv => whnf)
        | (refine CallX.of (s86 n L hL _ ?_ ?_ _ ?_) [(1000000, 1000000)] rfl ⟨SV.le_refl _, SV.le_refl _, trivial⟩ ⟨Res.le_refl _, trivial⟩ rfl rfl ?_; rotate_right; rintro x rout ⟨⟨j, hj1, hj2, hj3, rfl⟩, ⟨c, c1, c2, rfl⟩⟩; refine ⟨rfl, ?_⟩; conv => whnf)
        | (refine CallX.of (s15 n L hL _ ?_ ?_ [(e.getD j.toNat mv0).a, [], [122]] (by simp) (by simp)) [(1000000, 1000000)] rfl ⟨SV.le_refl _, SV.le_lit rfl rfl, trivial⟩ ⟨Res.le_refl _, trivial⟩ rfl rfl ?_; rotate_right; rintro x rout ⟨⟨u1, hu1, rfl⟩, ⟨c, c1, c2, rfl⟩⟩; refine ⟨rfl, ?_⟩; conv => whnf)
        | (refine CallX.of (s104 n L hL _ ?_ ?_ 1 20 ?_ ?_ ?_) [(1000000, 1000000)] rfl ⟨SV.le_refl _, SV.le_refl _, SV.le_refl _, trivial⟩ ⟨Res.le_refl _, trivial⟩ rfl rfl ?_; rotate_right; rintro x rout ⟨⟨u3, hk1, hk2, rfl⟩, ⟨c, c1, c2, rfl⟩⟩; refine ⟨rfl, ?_⟩; conv => whnf)
        | (refine br_intro (fun hb => ?_) (fun hb => ?_) <;> (try simp only [decide_eq_true_eq, decide_eq_false_iff_not, Bool.not_eq_true', Bool.not_eq_false', Bool.and_eq_true, Bool.or_eq_true, beq_iff_eq, not_and, Int.not_le, Int.not_lt, Int.toNat_natCast, beq_eq_false_iff_ne, ne_eq, eq_self, not_true_eq_false, not_false_eq_true] at hb) <;> (conv => whnf))
        | (refine RegX.rule (id := 11) hT rfl [] [(0, []), (1, [0]), (2, [0, 1]), (3, [0, 1]), (8, [0, 1, 2, 3]), (9, [0, 1, 2, 3, 8]), (4, [0, 8, 9]), (5, [8, 9]), (6, [8, 9]), (7, [8, 9]), (10, [0, 5, 6, 7]), (11, []), (12, []), (13, []), (14, [])] (by decide +kernel) ?_; conv => whnf)
        | (refine RegX.rule (id := 16) hT rfl [] [(0, []), (1, [0]), (2, [0, 1]), (4, [0, 1, 2]), (5, [0, 1, 2, 4]), (7, [0, 1, 2, 4, 5]), (8, [0, 1, 2, 4, 5, 7]), (3, [0, 4, 5, 7, 8]), (6, [0, 7, 8]), (9, [0]), (10, [0]), (11, [0]), (12, []), (13, [])] (by decide +kernel) ?_; conv => whnf)
        | (refine RegX.rule (id := 23) hT rfl [] [(0, []), (1, [0]), (2, [0, 1]), (3, [0, 1, 2]), (4, [0, 1, 2]), (5, [0, 1, 2]), (6, [0, 1, 2]), (7, [0, 1, 2]), (9, [0, 1, 2, 3, 4, 5, 6, 7]), (8, [0, 1, 9]), (10, [0, 1]), (11, [1]), (12, [1]), (13, [1]), (14, []), (15, []), (16, [])] (by decide +kernel) ?_; conv => whnf)
        | omega
        | (refine And.intro ?_ ?_; ((try dsimp only); first | omega | (refine ⟨by omega, by omega, Int.le_trans (Int.mul_le_mul_of_nonneg_right (Int.ofNat_le.2 (Nat.le_of_ble_eq_true (rfl : Nat.ble _ 1024 = true))) (by omega)) (by omega), by omega⟩) | (refine Nat.le_trans (Nat.mul_le_mul_left _ (Nat.le_of_ble_eq_true (rfl : Nat.ble _ 1024 = true))) ?_; omega) | (unfold inI64; omega) | (constructor <;> omega) | (simp only [inI64, List.length_cons, List.length_append, List.length_nil, List.length_set] at *; omega) | decide | (unfold inI64; decide)); conv => whnf)
        | omega | decide | assumption)
      all_goals first
        | (first
             | refine .freeze _ 11 66 3 _ _ rfl (.weak _ ?_)
             | refine .freeze _ 200 66 3 _ _ rfl (.weak _ ?_)
             | refine .freeze _ 300 66 3 _ _ rfl (.weak _ ?_)
           (conv => whnf)
           have hx := hsh.2 (e.getD j.toNat mv0) (getD_mem (by omega))
           have hq1 := three_len hu1 hx.1 (by decide) (by decide)
           exact ⟨_, [(1000000, strm n L _)], SV.le_upd2 (f := mvF) (d := mv0) (l := e) (fun y : Mov => { y with a := u1 }) (fun y => { y with many := u3 }) (fun _ => rfl) (fun _ => rfl), ⟨⟨_, allK_upd (g := fun y : Mov => { y with many := u3 }) (allK_upd (g := fun y : Mov => { y with a := u1 }) hsh (fun y hy => ⟨hq1, hy.2⟩)) (fun y hy => hy), rfl⟩, _, by omega, by omega, rfl⟩, Res.le_refl _, trivial⟩)
        | (first
             | refine .freeze _ 11 66 3 _ _ rfl (.weak _ ?_)
             | refine .freeze _ 200 66 3 _ _ rfl (.weak _ ?_)
             | refine .freeze _ 300 66 3 _ _ rfl (.weak _ ?_)
           (conv => whnf)
           exact ⟨_, [(1000000, strm n L _)], SV.le_refl _, ⟨⟨e, hsh, rfl⟩, _, by omega, by omega, rfl⟩, Res.le_refl _, trivial⟩)
    · refine ⟨rfl, ?_⟩
      conv => whnf
      have hsh : allK mvG 5 e := ⟨by have := hc1.1; have := hc2.1; have := he1.1; omega, fun p hp => p4.2 p (hc1.2 p (hc2.2 p (he1.2 p hp)))⟩
      have he5 := hsh.1
      repeat' (first
        | (refine CallX.of (s84 n L hL _ ?_ ?_ _ ?_) [(1000000, 1000000)] rfl ⟨SV.le_refl _, SV.le_refl _, trivial⟩ ⟨Res.le_refl _, trivial⟩ rfl rfl ?_; rotate_right; rintro x rout ⟨⟨f, rfl⟩, ⟨c, c1, c2, rfl⟩⟩; refine ⟨rfl, ?_⟩; conv => whnf)
        | (refine CallX.of (s86 n L hL _ ?_ ?_ _ ?_) [(1000000, 1000000)] rfl ⟨SV.le_refl _, SV.le_refl _, trivial⟩ ⟨Res.le_refl _, trivial⟩ rfl rfl ?_; rotate_right; rintro x rout ⟨⟨j, hj1, hj2, hj3, rfl⟩, ⟨c, c1, c2, rfl⟩⟩; refine ⟨rfl, ?_⟩; conv => whnf)
        | (refine CallX.of (s15 n L hL _ ?_ ?_ [(e.getD j.toNat mv0).a, [], [122]] (by simp) (by simp)) [(1000000, 1000000)] rfl ⟨SV.le_refl _, SV.le_lit rfl rfl, trivial⟩ ⟨Res.le_refl _, trivial⟩ rfl rfl ?_; rotate_right; rintro x rout ⟨⟨u1, hu1, rfl⟩, ⟨c, c1, c2, rfl⟩⟩; refine ⟨rfl, ?_⟩; conv => whnf)
        | (refine CallX.of (s104 n L hL _ ?_ ?_ 1 20 ?_ ?_ ?_) [(1000000, 1000000)] rfl ⟨SV.le_refl _, SV.le_refl _, SV.le_refl _, trivial⟩ ⟨Res.le_refl _, trivial⟩ rfl rfl ?_; rotate_right; rintro x rout ⟨⟨u3, hk1, hk2, rfl⟩, ⟨c, c1, c2, rfl⟩⟩; refine ⟨rfl, ?_⟩; conv => whnf)
        | (refine br_intro (fun hb => ?_) (fun hb => ?_) <;> (try simp only [decide_eq_true_eq, decide_eq_false_iff_not, Bool.not_eq_true', Bool.not_eq_false', Bool.and_eq_true, Bool.or_eq_true, beq_iff_eq, not_and, Int.not_le, Int.not_lt, Int.toNat_natCast, beq_eq_false_iff_ne, ne_eq, eq_self, not_true_eq_false, not_false_eq_true] at hb) <;> (conv => whnf))
        | (refine RegX.rule (id := 11) hT rfl [] [(0, []), (1, [0]), (2, [0, 1]), (3, [0, 1]), (8, [0, 1, 2, 3]), (9, [0, 1, 2, 3, 8]), (4, [0, 8, 9]), (5, [8, 9]), (6, [8, 9]), (7, [8, 9]), (10, [0, 5, 6, 7]), (11, []), (12, []), (13, []), (14, [])] (by decide +kernel) ?_; conv => whnf)
        | (refine RegX.rule (id := 16) hT rfl [] [(0, []), (1, [0]), (2, [0, 1]), (4, [0, 1, 2]), (5, [0, 1, 2, 4]), (7, [0, 1, 2, 4, 5]), (8, [0, 1, 2, 4, 5, 7]), (3, [0, 4, 5, 7, 8]), (6, [0, 7, 8]), (9, [0]), (10, [0]), (11, [0]), (12, []), (13, [])] (by decide +kernel) ?_; conv => whnf)
        | (refine RegX.rule (id := 23) hT rfl [] [(0, []), (1, [0]), (2, [0, 1]), (3, [0, 1, 2]), (4, [0, 1, 2]), (5, [0, 1, 2]), (6, [0, 1, 2]), (7, [0, 1, 2]), (9, [0, 1, 2, 3, 4, 5, 6, 7]), (8, [0, 1, 9]), (10, [0, 1]), (11, [1]), (12, [1]), (13, [1]), (14, []), (15, []), (16, [])] (by decide +kernel) ?_; conv => whnf)
        | omega
        | (refine And.intro ?_ ?_; ((try dsimp only); first | omega | (refine ⟨by omega, by omega, Int.le_trans (Int.mul_le_mul_of_nonneg_right (Int.ofNat_le.2 (Nat.le_of_ble_eq_true (rfl : Nat.ble _ 1024 = true))) (by omega)) (by omega), by omega⟩) | (refine Nat.le_trans (Nat.mul_le_mul_left _ (Nat.le_of_ble_eq_true (rfl : Nat.ble _ 1024 = true))) ?_; omega) | (unfold inI64; omega) | (constructor <;> omega) | (simp only [inI64, List.length_cons, List.length_append, List.length_nil, List.length_set] at *; omega) | decide | (unfold inI64; decide)); conv => whnf)
        | omega | decide | assumption)
      all_goals first
        | (first
             | refine .freeze _ 11 66 3 _ _ rfl (.weak _ ?_)
             | refine .freeze _ 200 66 3 _ _ rfl (.weak _ ?_)
             | refine .freeze _ 300 66 3 _ _ rfl (.weak _ ?_)
           (conv => whnf)
           have hx := hsh.2 (e.getD j.toNat mv0) (getD_mem (by omega))
           have hq1 := three_len hu1 hx.1 (by decide) (by decide)
           exact ⟨_, [(1000000, strm n L _)], SV.le_upd2 (f := mvF) (d := mv0) (l := e) (fun y : Mov => { y with a := u1 }) (fun y => { y with many := u3 }) (fun _ => rfl) (fun _ => rfl), ⟨⟨_, allK_upd (g := fun y : Mov => { y with many := u3 }) (allK_upd (g := fun y : Mov => { y with a := u1 }) hsh (fun y hy => ⟨hq1, hy.2⟩)) (fun y hy => hy), rfl⟩, _, by omega, by omega, rfl⟩, Res.le_refl _, trivial⟩)
        | (first
             | refine .freeze _ 11 66 3 _ _ rfl (.weak _ ?_)
             | refine .freeze _ 200 66 3 _ _ rfl (.weak _ ?_)
             | refine .freeze _ 300 66 3 _ _ rfl (.weak _ ?_)
           (conv => whnf)
           exact ⟨_, [(1000000, strm n L _)], SV.le_refl _, ⟨⟨e, hsh, rfl⟩, _, by omega, by omega, rfl⟩, Res.le_refl _, trivial⟩)
end Go.Proofs.YtnkdlkgannnfhaaGreatDoor
set_option maxRecDepth 20000
namespace Go.Proofs.YtnkdlkgannnfhaaGreatDoor
open Go Go.Eng
def abcL : List (List UInt8) := [[97], [98], [99]]
def defL : List (List UInt8) := [[100], [101], [102]]
def mv9 : List Mov := [⟨[97], [100], 1⟩, ⟨[97], [101], 1⟩, ⟨[97], [102], 1⟩, ⟨[98], [100], 1⟩, ⟨[98], [101], 1⟩, ⟨[98], [102], 1⟩, ⟨[99], [100], 1⟩, ⟨[99], [101], 1⟩, ⟨[99], [102], 1⟩]
theorem mv9_step : ∀ i, i < 3 → ∀ j, j < 3 → mv9.take (3 * i + j + 1) = mv9.take (3 * i + j) ++ [⟨abcL.getD i [], defL.getD j [], 1⟩] := by decide
theorem mv9_len {n : Nat} (h : n ≤ 9) : (mv9.take n).length = n := by rw [List.length_take]; show min n 9 = n; omega
-- RoundsLeast
set_option maxHeartbeats 8000000 in
theorem z5 (n : Nat) (L : Nat → Int) (hn : n ≤ maxLen) (hl : ∀ i, -2^63 ≤ L i ∧ L i < 2^63) : FSpec Tryz.prog 5 [.d (.ro 1 n fun i => [.int .i64 (L i)])] [] (fun x r => x = .d (.bool true) ∧ r = []) := by
  have hL : Rok n L := ⟨hn, hl⟩
  refine spec_of hT (C := []) Tryz.func5 rfl Tryz.call5 rfl rfl rfl ?_
  conv => whnf
  repeat' (first
    | (refine CallX.of (sRds n L hL 0 (by omega) (by omega)) [(1000000, 20)] rfl ⟨SV.le_refl _, trivial⟩ ⟨Res.le_refl _, trivial⟩ rfl rfl ?_; rintro x rout ⟨⟨r, q1, rfl⟩, ⟨c, c1, c2, rfl⟩⟩; refine ⟨rfl, ?_⟩; conv => whnf)
    | (refine CallX.of (s15 n L hL _ ?_ ?_ [[97], [97], [98], [101], []] (by simp) (by simp)) [(1000000, 20)] rfl ⟨SV.le_refl _, SV.le_lit rfl rfl, trivial⟩ ⟨Res.le_refl _, trivial⟩ rfl rfl ?_; rotate_right; rintro x rout ⟨⟨st, hst0, rfl⟩, ⟨c, c1, c2, rfl⟩⟩; have hst := Nat.le_trans (mem_len hst0 rfl) (by decide : 8 ≤ 2^40); refine ⟨rfl, ?_⟩; conv => whnf)
    | (refine CallX.of (sMov n L hL c (by omega) (by omega)) [(1000000, 20)] rfl ⟨SV.le_refl _, SV.le_refl _, SV.le_refl _, trivial⟩ ⟨Res.le_refl _, trivial⟩ rfl rfl ?_; rintro x rout ⟨⟨m, q2, rfl⟩, ⟨c, c3, c4, rfl⟩⟩; refine ⟨rfl, ?_⟩; conv => whnf)
    | (refine CallX.of (s84 n L hL _ ?_ ?_ _ ?_) [(1000000, 20)] rfl ⟨SV.le_refl _, SV.le_refl _, trivial⟩ ⟨Res.le_refl _, trivial⟩ rfl rfl ?_; rotate_right; rintro x rout ⟨⟨f, rfl⟩, ⟨c, c1, c2, rfl⟩⟩; refine ⟨rfl, ?_⟩; conv => whnf)
    | (refine br_intro (fun hb => ?_) (fun hb => ?_) <;> (try simp only [decide_eq_true_eq, decide_eq_false_iff_not, Bool.not_eq_true', Bool.not_eq_false', Bool.and_eq_true, Bool.or_eq_true, beq_iff_eq, not_and, Int.not_le, Int.not_lt, Int.toNat_natCast, beq_eq_false_iff_ne, ne_eq, eq_self, not_true_eq_false, not_false_eq_true] at hb) <;> (conv => whnf))
    | omega
    | (refine And.intro ?_ ?_; ((try dsimp only); first | omega | (refine ⟨by omega, by omega, Int.le_trans (Int.mul_le_mul_of_nonneg_right (Int.ofNat_le.2 (Nat.le_of_ble_eq_true (rfl : Nat.ble _ 1024 = true))) (by omega)) (by omega), by omega⟩) | (refine Nat.le_trans (Nat.mul_le_mul_left _ (Nat.le_of_ble_eq_true (rfl : Nat.ble _ 1024 = true))) ?_; omega) | (unfold inI64; omega) | (constructor <;> omega) | (simp only [inI64, List.length_cons, List.length_append, List.length_nil, List.length_set] at *; omega) | decide | (unfold inI64; decide)); conv => whnf)
    | omega | decide | assumption)
  · have hr : rdOk r := ⟨by have := q1.1; omega, fun x hx => by have := q1.2 x hx; unfold rdS at this; exact ⟨by omega, by omega⟩⟩
    refine LoopX.rule hT (C := []) (ι := Nat) (fun i => i ≤ 3) (fun i => mkSt [(4, .d (roas r)), (5, .d (.str st)), (6, .buf 6), (30, .d (strs abcL)), (31, .d (.int .i64 3)), (32, .d (.int .i64 i))] [(6, mvB (mv9.take (3 * i)))]) (fun i => 3 - i) 0 (by omega) ?_ ?_
    · exact (Entails.nil 6 6 66 3 (rowF mvF mv0 []) rfl rfl (by decide)).trans (by (refine Entails.mk' [(6, 6)] rfl rfl ?_ ?_ <;> repeat' (first | exact True.intro | exact SV.le_refl _ | exact Res.le_refl _ | (exact SV.le_lit rfl rfl) | exact SV.le_int (by omega) | exact SV.le_any _ | refine And.intro ?_ ?_)); done)
    rintro i p1
    have e1 : (i : Int).toNat = i := Int.toNat_natCast i
    have ha3 : abcL.length = 3 := rfl
    have hd3 : defL.length = 3 := rfl
    conv => whnf
    repeat' (first
      | (refine br_intro (fun hb => ?_) (fun hb => ?_) <;> (try simp only [decide_eq_true_eq, decide_eq_false_iff_not, Bool.not_eq_true', Bool.not_eq_false', Bool.and_eq_true, Bool.or_eq_true, beq_iff_eq, not_and, Int.not_le, Int.not_lt, Int.toNat_natCast, beq_eq_false_iff_ne, ne_eq, eq_self, not_true_eq_false, not_false_eq_true] at hb) <;> (conv => whnf))
      | omega
      | (refine And.intro ?_ ?_; ((try dsimp only); first | omega | (refine ⟨by omega, by omega, Int.le_trans (Int.mul_le_mul_of_nonneg_right (Int.ofNat_le.2 (Nat.le_of_ble_eq_true (rfl : Nat.ble _ 1024 = true))) (by omega)) (by omega), by omega⟩) | (refine Nat.le_trans (Nat.mul_le_mul_left _ (Nat.le_of_ble_eq_true (rfl : Nat.ble _ 1024 = true))) ?_; omega) | (unfold inI64; omega) | (constructor <;> omega) | (simp only [inI64, List.length_cons, List.length_append, List.length_nil, List.length_set] at *; omega) | decide | (unfold inI64; decide)); conv => whnf)
      | omega | decide | assumption)
    · refine LoopX.rule hT (C := []) (ι := Nat) (fun j => j ≤ 3) (fun j => mkSt [(4, .d (roas r)), (5, .d (.str st)), (6, .buf 6), (8, .d (.str (abcL.getD i []))), (30, .d (strs abcL)), (31, .d (.int .i64 3)), (32, .d (.int .i64 i)), (36, .d (strs defL)), (37, .d (.int .i64 3)), (38, .d (.int .i64 j))] [(6, mvB (mv9.take (3 * i + j)))]) (fun j => 3 - j) 0 (by omega) ?_ ?_
      · exact (by (refine Entails.mk' [(6, 6)] rfl rfl ?_ ?_ <;> repeat' (first | exact True.intro | exact SV.le_refl _ | exact Res.le_refl _ | (exact SV.le_lit rfl rfl) | exact SV.le_int (by omega) | exact SV.le_any _ | refine And.intro ?_ ?_)); done)
      rintro j p2
      have e2 : (j : Int).toNat = j := Int.toNat_natCast j
      have hi3 : i < 3 := by omega
      have hml := mv9_len (n := 3 * i + j) (by omega)
      by_cases hj : j < 3
      · have hs := mv9_step i hi3 j hj
        conv => whnf
        repeat' (first
          | (refine br_intro (fun hb => ?_) (fun hb => ?_) <;> (try simp only [decide_eq_true_eq, decide_eq_false_iff_not, Bool.not_eq_true', Bool.not_eq_false', Bool.and_eq_true, Bool.or_eq_true, beq_iff_eq, not_and, Int.not_le, Int.not_lt, Int.toNat_natCast, beq_eq_false_iff_ne, ne_eq, eq_self, not_true_eq_false, not_false_eq_true] at hb) <;> (conv => whnf))
          | omega
          | (refine And.intro ?_ ?_; ((try dsimp only); first | omega | (refine ⟨by omega, by omega, Int.le_trans (Int.mul_le_mul_of_nonneg_right (Int.ofNat_le.2 (Nat.le_of_ble_eq_true (rfl : Nat.ble _ 1024 = true))) (by omega)) (by omega), by omega⟩) | (refine Nat.le_trans (Nat.mul_le_mul_left _ (Nat.le_of_ble_eq_true (rfl : Nat.ble _ 1024 = true))) ?_; omega) | (unfold inI64; omega) | (constructor <;> omega) | (simp only [inI64, List.length_cons, List.length_append, List.length_nil, List.length_set] at *; omega) | decide | (unfold inI64; decide)); conv => whnf)
          | omega | decide | assumption)
        refine ⟨j + 1, by omega, by omega, Entails.mk' [(6, 47)] rfl rfl ⟨SV.le_refl _, SV.le_refl _, SV.le_refl _, SV.le_refl _, SV.le_refl _, SV.le_refl _, SV.le_refl _, SV.le_refl _, SV.le_refl _, SV.le_int (by omega), trivial⟩ ⟨?_, trivial⟩⟩
        rw [show 3 * i + (j + 1) = 3 * i + j + 1 by omega, hs]
        exact Res.le_snocF rfl
      · obtain rfl : j = 3 := by omega
        conv => whnf
        repeat' (first
          | (refine br_intro (fun hb => ?_) (fun hb => ?_) <;> (try simp only [decide_eq_true_eq, decide_eq_false_iff_not, Bool.not_eq_true', Bool.not_eq_false', Bool.and_eq_true, Bool.or_eq_true, beq_iff_eq, not_and, Int.not_le, Int.not_lt, Int.toNat_natCast, beq_eq_false_iff_ne, ne_eq, eq_self, not_true_eq_false, not_false_eq_true] at hb) <;> (conv => whnf))
          | omega
          | (refine And.intro ?_ ?_; ((try dsimp only); first | omega | (refine ⟨by omega, by omega, Int.le_trans (Int.mul_le_mul_of_nonneg_right (Int.ofNat_le.2 (Nat.le_of_ble_eq_true (rfl : Nat.ble _ 1024 = true))) (by omega)) (by omega), by omega⟩) | (refine Nat.le_trans (Nat.mul_le_mul_left _ (Nat.le_of_ble_eq_true (rfl : Nat.ble _ 1024 = true))) ?_; omega) | (unfold inI64; omega) | (constructor <;> omega) | (simp only [inI64, List.length_cons, List.length_append, List.length_nil, List.length_set] at *; omega) | decide | (unfold inI64; decide)); conv => whnf)
          | omega | decide | assumption)
        refine ⟨i + 1, by omega, by omega, ?_⟩
        rw [show 3 * (i + 1) = 3 * i + 3 by omega]
        exact (by (refine Entails.mk' [(6, 6)] rfl rfl ?_ ?_ <;> repeat' (first | exact True.intro | exact SV.le_refl _ | exact Res.le_refl _ | exact SV.le_int (by omega) | exact SV.le_any _ | refine And.intro ?_ ?_)); done)
    · obtain rfl : i = 3 := by omega
      obtain ⟨m, hm9⟩ : ∃ m, m = mv9.take (3 * 3) := ⟨_, rfl⟩
      have hm100 : m.length ≤ 100 := by rw [hm9, mv9_len (by omega)]; omega
      have hm : mvOk m := ⟨by omega, fun x hx => by
        rw [hm9] at hx
        have : ∀ y ∈ mv9, y.a.length ≤ 8 ∧ y.b.length ≤ 8 := by decide
        have := this x (List.mem_of_mem_take hx)
        exact ⟨by omega, by omega⟩⟩
      rw [← hm9]
      clear hm9
      have h41 := z41 r st m hr hst hm hm100
      conv => whnf
      refine CallX.freeze _ _ _ _ 6 66 3 _ _ rfl rfl ?_
      have h41 := z41 r st m hr hst hm hm100
      have h21 := z21 r hr
      have h25 := z25 m hm
      have hK := s21 st hst
      have h17 := s17 [rdsE r, if (!isKeyB st) = true then 5 else 0, mvsE m, if decide ((8 : Int) < (m.length : Int)) = true then 2 else 0] (by simp)
      rw [show firstE [rdsE r, if (!isKeyB st) = true then 5 else 0, mvsE m, if decide ((8 : Int) < (m.length : Int)) = true then 2 else 0] = firstE [drvE r st m, if 8 < m.length then 2 else 0] from by
        unfold drvE
        have : (decide ((8 : Int) < (m.length : Int)) = true) = (8 < m.length) := by rw [decide_eq_true_eq]; exact propext (by omega)
        simp only [this, firstE]
        cases isKeyB st <;> simp <;> grind] at h17
      have hbl := rs_len (l := r) (start := st) (m := m) m.length [] ([], -1) m.length (by simp) (by simp)
      change (bestR r st m).1.length ≤ m.length at hbl
      have h37 := s37 (bestR r st m).1 (bestR r st m).1 (by omega) (by omega)
      rw [decide_eq_true rfl] at h37
      unfold rndT rndE at h41
      by_cases hf : firstE [drvE r st m, if 8 < m.length then 2 else 0] = 0
      · have hdv : drvE r st m = 0 := by simp only [firstE] at hf; grind
        have h44 := z44 r (drvE_zero hdv).1 st m hm100
        rw [if_neg (show ¬ (firstE [drvE r st m, if 8 < m.length then 2 else 0] ≠ 0) from fun q => q hf)] at h41
        rw [hf] at h17
        generalize bestR r st m = R at h41 h44 h37 hbl
        by_cases hneg : R.2 < 0
        · rw [if_pos hneg, if_neg (by decide)] at h41
          rw [if_neg (by omega), decide_eq_false (by omega)] at h44
          repeat' (first
            | (refine CallX.exact (h41) rfl rfl ?_; rotate_right; conv => whnf)
            | (refine CallX.exact (h21) rfl rfl ?_; rotate_right; conv => whnf)
            | (refine CallX.exact (h25) rfl rfl ?_; rotate_right; conv => whnf)
            | (refine CallX.exact (hK) rfl rfl ?_; rotate_right; conv => whnf)
            | (refine CallX.exact (s20 _ _) rfl rfl ?_; rotate_right; conv => whnf)
            | (refine CallX.pure h17 ⟨SV.le_lit (by rfl) (by rfl), trivial⟩ rfl ?_; conv => whnf)
            | (refine CallX.exact (h44) rfl rfl ?_; rotate_right; conv => whnf)
            | (refine CallX.exact (s32) rfl rfl ?_; rotate_right; conv => whnf)
            | (refine br_intro (fun hb => ?_) (fun hb => ?_) <;> (try simp only [decide_eq_true_eq, decide_eq_false_iff_not, Bool.not_eq_true', Bool.not_eq_false', Bool.and_eq_true, Bool.or_eq_true, beq_iff_eq, not_and, Int.not_le, Int.not_lt, Int.toNat_natCast, beq_eq_false_iff_ne, ne_eq, eq_self, not_true_eq_false, not_false_eq_true] at hb) <;> (conv => whnf))
            | omega
            | (refine And.intro ?_ ?_; ((try dsimp only); first | omega | (refine ⟨by omega, by omega, Int.le_trans (Int.mul_le_mul_of_nonneg_right (Int.ofNat_le.2 (Nat.le_of_ble_eq_true (rfl : Nat.ble _ 1024 = true))) (by omega)) (by omega), by omega⟩) | (refine Nat.le_trans (Nat.mul_le_mul_left _ (Nat.le_of_ble_eq_true (rfl : Nat.ble _ 1024 = true))) ?_; omega) | (unfold inI64; omega) | (constructor <;> omega) | (simp only [inI64, List.length_cons, List.length_append, List.length_nil, List.length_set] at *; omega) | decide | (unfold inI64; decide)); conv => whnf)
            | omega | decide | assumption)
          all_goals first
            | (exfalso; omega)
            | exact absurd (by assumption) hf
            | (refine .ret _ ?_
               conv => whnf
               refine ⟨[], ⟨?_, rfl⟩, trivial⟩
               conv => lhs; whnf
               all_goals rfl)
        · rw [if_neg hneg, if_pos rfl] at h41
          rw [if_pos (by omega), decide_eq_true (by omega)] at h44
          repeat' (first
            | (refine CallX.exact (h41) rfl rfl ?_; rotate_right; conv => whnf)
            | (refine CallX.exact (h21) rfl rfl ?_; rotate_right; conv => whnf)
            | (refine CallX.exact (h25) rfl rfl ?_; rotate_right; conv => whnf)
            | (refine CallX.exact (hK) rfl rfl ?_; rotate_right; conv => whnf)
            | (refine CallX.exact (s20 _ _) rfl rfl ?_; rotate_right; conv => whnf)
            | (refine CallX.pure h17 ⟨SV.le_lit (by rfl) (by rfl), trivial⟩ rfl ?_; conv => whnf)
            | (refine CallX.exact (h44) rfl rfl ?_; rotate_right; conv => whnf)
            | (refine CallX.exact (h37) rfl rfl ?_; rotate_right; conv => whnf)
            | (refine CallX.exact (s32) rfl rfl ?_; rotate_right; conv => whnf)
            | (refine br_intro (fun hb => ?_) (fun hb => ?_) <;> (try simp only [decide_eq_true_eq, decide_eq_false_iff_not, Bool.not_eq_true', Bool.not_eq_false', Bool.and_eq_true, Bool.or_eq_true, beq_iff_eq, not_and, Int.not_le, Int.not_lt, Int.toNat_natCast, beq_eq_false_iff_ne, ne_eq, eq_self, not_true_eq_false, not_false_eq_true] at hb) <;> (conv => whnf))
            | omega
            | (refine And.intro ?_ ?_; ((try dsimp only); first | omega | (refine ⟨by omega, by omega, Int.le_trans (Int.mul_le_mul_of_nonneg_right (Int.ofNat_le.2 (Nat.le_of_ble_eq_true (rfl : Nat.ble _ 1024 = true))) (by omega)) (by omega), by omega⟩) | (refine Nat.le_trans (Nat.mul_le_mul_left _ (Nat.le_of_ble_eq_true (rfl : Nat.ble _ 1024 = true))) ?_; omega) | (unfold inI64; omega) | (constructor <;> omega) | (simp only [inI64, List.length_cons, List.length_append, List.length_nil, List.length_set] at *; omega) | decide | (unfold inI64; decide)); conv => whnf)
            | omega | decide | assumption)
          all_goals first
            | (exfalso; omega)
            | exact absurd (by assumption) hf
            | (refine .ret _ ?_
               conv => whnf
               refine ⟨[], ⟨?_, rfl⟩, trivial⟩
               conv => lhs; whnf
               all_goals rfl)
      · rw [if_pos hf, if_neg hf] at h41
        generalize firstE [drvE r st m, if 8 < m.length then 2 else 0] = e at h41 h17 hf
        repeat' (first
          | (refine CallX.exact (h41) rfl rfl ?_; rotate_right; conv => whnf)
          | (refine CallX.exact (h21) rfl rfl ?_; rotate_right; conv => whnf)
          | (refine CallX.exact (h25) rfl rfl ?_; rotate_right; conv => whnf)
          | (refine CallX.exact (hK) rfl rfl ?_; rotate_right; conv => whnf)
          | (refine CallX.exact (s20 _ _) rfl rfl ?_; rotate_right; conv => whnf)
          | (refine CallX.pure h17 ⟨SV.le_lit (by rfl) (by rfl), trivial⟩ rfl ?_; conv => whnf)
          | (refine CallX.exact (s32) rfl rfl ?_; rotate_right; conv => whnf)
          | (refine br_intro (fun hb => ?_) (fun hb => ?_) <;> (try simp only [decide_eq_true_eq, decide_eq_false_iff_not, Bool.not_eq_true', Bool.not_eq_false', Bool.and_eq_true, Bool.or_eq_true, beq_iff_eq, not_and, Int.not_le, Int.not_lt, Int.toNat_natCast, beq_eq_false_iff_ne, ne_eq, eq_self, not_true_eq_false, not_false_eq_true] at hb) <;> (conv => whnf))
          | omega
          | (refine And.intro ?_ ?_; ((try dsimp only); first | omega | (refine ⟨by omega, by omega, Int.le_trans (Int.mul_le_mul_of_nonneg_right (Int.ofNat_le.2 (Nat.le_of_ble_eq_true (rfl : Nat.ble _ 1024 = true))) (by omega)) (by omega), by omega⟩) | (refine Nat.le_trans (Nat.mul_le_mul_left _ (Nat.le_of_ble_eq_true (rfl : Nat.ble _ 1024 = true))) ?_; omega) | (unfold inI64; omega) | (constructor <;> omega) | (simp only [inI64, List.length_cons, List.length_append, List.length_nil, List.length_set] at *; omega) | decide | (unfold inI64; decide)); conv => whnf)
          | omega | decide | assumption)
        all_goals first
          | (exfalso; omega)
          | exact absurd (by assumption) hf
          | (refine .ret _ ?_
             conv => whnf
             refine ⟨[], ⟨?_, rfl⟩, trivial⟩
             conv => lhs; whnf
             all_goals rfl)
  · have hr : rdOk r := ⟨by have := q1.1; omega, fun x hx => by have := q1.2 x hx; unfold rdS at this; exact ⟨by omega, by omega⟩⟩
    have hm : mvOk m := ⟨by have := q2.1; omega, fun x hx => by have := q2.2 x hx; unfold mvG at this; exact ⟨by omega, by omega⟩⟩
    have hm100 : m.length ≤ 100 := by have := q2.1; omega
    have h41 := z41 r st m hr hst hm hm100
    have h21 := z21 r hr
    have h25 := z25 m hm
    have hK := s21 st hst
    have h17 := s17 [rdsE r, if (!isKeyB st) = true then 5 else 0, mvsE m, if decide ((8 : Int) < (m.length : Int)) = true then 2 else 0] (by simp)
    rw [show firstE [rdsE r, if (!isKeyB st) = true then 5 else 0, mvsE m, if decide ((8 : Int) < (m.length : Int)) = true then 2 else 0] = firstE [drvE r st m, if 8 < m.length then 2 else 0] from by
      unfold drvE
      have : (decide ((8 : Int) < (m.length : Int)) = true) = (8 < m.length) := by rw [decide_eq_true_eq]; exact propext (by omega)
      simp only [this, firstE]
      cases isKeyB st <;> simp <;> grind] at h17
    have hbl := rs_len (l := r) (start := st) (m := m) m.length [] ([], -1) m.length (by simp) (by simp)
    change (bestR r st m).1.length ≤ m.length at hbl
    have h37 := s37 (bestR r st m).1 (bestR r st m).1 (by omega) (by omega)
    rw [decide_eq_true rfl] at h37
    unfold rndT rndE at h41
    by_cases hf : firstE [drvE r st m, if 8 < m.length then 2 else 0] = 0
    · have hdv : drvE r st m = 0 := by simp only [firstE] at hf; grind
      have h44 := z44 r (drvE_zero hdv).1 st m hm100
      rw [if_neg (show ¬ (firstE [drvE r st m, if 8 < m.length then 2 else 0] ≠ 0) from fun q => q hf)] at h41
      rw [hf] at h17
      generalize bestR r st m = R at h41 h44 h37 hbl
      by_cases hneg : R.2 < 0
      · rw [if_pos hneg, if_neg (by decide)] at h41
        rw [if_neg (by omega), decide_eq_false (by omega)] at h44
        repeat' (first
          | (refine CallX.exact (h41) rfl rfl ?_; rotate_right; conv => whnf)
          | (refine CallX.exact (h21) rfl rfl ?_; rotate_right; conv => whnf)
          | (refine CallX.exact (h25) rfl rfl ?_; rotate_right; conv => whnf)
          | (refine CallX.exact (hK) rfl rfl ?_; rotate_right; conv => whnf)
          | (refine CallX.exact (s20 _ _) rfl rfl ?_; rotate_right; conv => whnf)
          | (refine CallX.pure h17 ⟨SV.le_lit (by rfl) (by rfl), trivial⟩ rfl ?_; conv => whnf)
          | (refine CallX.exact (h44) rfl rfl ?_; rotate_right; conv => whnf)
          | (refine CallX.exact (s32) rfl rfl ?_; rotate_right; conv => whnf)
          | (refine br_intro (fun hb => ?_) (fun hb => ?_) <;> (try simp only [decide_eq_true_eq, decide_eq_false_iff_not, Bool.not_eq_true', Bool.not_eq_false', Bool.and_eq_true, Bool.or_eq_true, beq_iff_eq, not_and, Int.not_le, Int.not_lt, Int.toNat_natCast, beq_eq_false_iff_ne, ne_eq, eq_self, not_true_eq_false, not_false_eq_true] at hb) <;> (conv => whnf))
          | omega
          | (refine And.intro ?_ ?_; ((try dsimp only); first | omega | (refine ⟨by omega, by omega, Int.le_trans (Int.mul_le_mul_of_nonneg_right (Int.ofNat_le.2 (Nat.le_of_ble_eq_true (rfl : Nat.ble _ 1024 = true))) (by omega)) (by omega), by omega⟩) | (refine Nat.le_trans (Nat.mul_le_mul_left _ (Nat.le_of_ble_eq_true (rfl : Nat.ble _ 1024 = true))) ?_; omega) | (unfold inI64; omega) | (constructor <;> omega) | (simp only [inI64, List.length_cons, List.length_append, List.length_nil, List.length_set] at *; omega) | decide | (unfold inI64; decide)); conv => whnf)
          | omega | decide | assumption)
        all_goals first
          | (exfalso; omega)
          | exact absurd (by assumption) hf
          | (refine .ret _ ?_
             conv => whnf
             refine ⟨[], ⟨?_, rfl⟩, trivial⟩
             conv => lhs; whnf
             all_goals rfl)
      · rw [if_neg hneg, if_pos rfl] at h41
        rw [if_pos (by omega), decide_eq_true (by omega)] at h44
        repeat' (first
          | (refine CallX.exact (h41) rfl rfl ?_; rotate_right; conv => whnf)
          | (refine CallX.exact (h21) rfl rfl ?_; rotate_right; conv => whnf)
          | (refine CallX.exact (h25) rfl rfl ?_; rotate_right; conv => whnf)
          | (refine CallX.exact (hK) rfl rfl ?_; rotate_right; conv => whnf)
          | (refine CallX.exact (s20 _ _) rfl rfl ?_; rotate_right; conv => whnf)
          | (refine CallX.pure h17 ⟨SV.le_lit (by rfl) (by rfl), trivial⟩ rfl ?_; conv => whnf)
          | (refine CallX.exact (h44) rfl rfl ?_; rotate_right; conv => whnf)
          | (refine CallX.exact (h37) rfl rfl ?_; rotate_right; conv => whnf)
          | (refine CallX.exact (s32) rfl rfl ?_; rotate_right; conv => whnf)
          | (refine br_intro (fun hb => ?_) (fun hb => ?_) <;> (try simp only [decide_eq_true_eq, decide_eq_false_iff_not, Bool.not_eq_true', Bool.not_eq_false', Bool.and_eq_true, Bool.or_eq_true, beq_iff_eq, not_and, Int.not_le, Int.not_lt, Int.toNat_natCast, beq_eq_false_iff_ne, ne_eq, eq_self, not_true_eq_false, not_false_eq_true] at hb) <;> (conv => whnf))
          | omega
          | (refine And.intro ?_ ?_; ((try dsimp only); first | omega | (refine ⟨by omega, by omega, Int.le_trans (Int.mul_le_mul_of_nonneg_right (Int.ofNat_le.2 (Nat.le_of_ble_eq_true (rfl : Nat.ble _ 1024 = true))) (by omega)) (by omega), by omega⟩) | (refine Nat.le_trans (Nat.mul_le_mul_left _ (Nat.le_of_ble_eq_true (rfl : Nat.ble _ 1024 = true))) ?_; omega) | (unfold inI64; omega) | (constructor <;> omega) | (simp only [inI64, List.length_cons, List.length_append, List.length_nil, List.length_set] at *; omega) | decide | (unfold inI64; decide)); conv => whnf)
          | omega | decide | assumption)
        all_goals first
          | (exfalso; omega)
          | exact absurd (by assumption) hf
          | (refine .ret _ ?_
             conv => whnf
             refine ⟨[], ⟨?_, rfl⟩, trivial⟩
             conv => lhs; whnf
             all_goals rfl)
    · rw [if_pos hf, if_neg hf] at h41
      generalize firstE [drvE r st m, if 8 < m.length then 2 else 0] = e at h41 h17 hf
      repeat' (first
        | (refine CallX.exact (h41) rfl rfl ?_; rotate_right; conv => whnf)
        | (refine CallX.exact (h21) rfl rfl ?_; rotate_right; conv => whnf)
        | (refine CallX.exact (h25) rfl rfl ?_; rotate_right; conv => whnf)
        | (refine CallX.exact (hK) rfl rfl ?_; rotate_right; conv => whnf)
        | (refine CallX.exact (s20 _ _) rfl rfl ?_; rotate_right; conv => whnf)
        | (refine CallX.pure h17 ⟨SV.le_lit (by rfl) (by rfl), trivial⟩ rfl ?_; conv => whnf)
        | (refine CallX.exact (s32) rfl rfl ?_; rotate_right; conv => whnf)
        | (refine br_intro (fun hb => ?_) (fun hb => ?_) <;> (try simp only [decide_eq_true_eq, decide_eq_false_iff_not, Bool.not_eq_true', Bool.not_eq_false', Bool.and_eq_true, Bool.or_eq_true, beq_iff_eq, not_and, Int.not_le, Int.not_lt, Int.toNat_natCast, beq_eq_false_iff_ne, ne_eq, eq_self, not_true_eq_false, not_false_eq_true] at hb) <;> (conv => whnf))
        | omega
        | (refine And.intro ?_ ?_; ((try dsimp only); first | omega | (refine ⟨by omega, by omega, Int.le_trans (Int.mul_le_mul_of_nonneg_right (Int.ofNat_le.2 (Nat.le_of_ble_eq_true (rfl : Nat.ble _ 1024 = true))) (by omega)) (by omega), by omega⟩) | (refine Nat.le_trans (Nat.mul_le_mul_left _ (Nat.le_of_ble_eq_true (rfl : Nat.ble _ 1024 = true))) ?_; omega) | (unfold inI64; omega) | (constructor <;> omega) | (simp only [inI64, List.length_cons, List.length_append, List.length_nil, List.length_set] at *; omega) | decide | (unfold inI64; decide)); conv => whnf)
        | omega | decide | assumption)
      all_goals first
        | (exfalso; omega)
        | exact absurd (by assumption) hf
        | (refine .ret _ ?_
           conv => whnf
           refine ⟨[], ⟨?_, rfl⟩, trivial⟩
           conv => lhs; whnf
           all_goals rfl)
end Go.Proofs.YtnkdlkgannnfhaaGreatDoor
