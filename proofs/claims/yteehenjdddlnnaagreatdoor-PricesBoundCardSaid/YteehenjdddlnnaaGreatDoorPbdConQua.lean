/- PricesBound is proved: for every input the law returns true, and its argument reads afterwards as it read before. Conditions: those of the given row alone. -/
import Derived.Test.YteehenjdddlnnaaGreatDoorPbdConTri
import Derived.Test.YteehenjdddlnnaaGreatDoorPbdConOne
set_option linter.unusedVariables false
set_option linter.unusedSimpArgs false
set_option maxRecDepth 20000
namespace Go.Proofs.YteehenjdddlnnaaGreatDoor
open Go Go.Eng
def oVPhB25_6 : List (Nat × List Nat) := [(0, []), (1, []), (2, [0, 1]), (3, [0, 1, 2]), (4, [0, 1]), (5, [0, 1]), (6, [0, 1]), (7, [])]
def oVPhB26_7 : List (Nat × List Nat) := [(0, []), (1, [0]), (2, [0]), (3, [0, 1, 2]), (4, [0, 1, 2, 3]), (5, [0, 1, 2]), (6, [0, 1, 2]), (7, [0, 1, 2]), (8, [0, 1, 2]), (9, [0]), (10, []), (11, [])]
def oVPhB26_5 : List (Nat × List Nat) := [(0, []), (1, [0]), (2, [0]), (3, [0]), (4, [0, 1, 2, 3]), (5, [0, 1, 2, 3, 4]), (6, [0, 1, 2, 3]), (7, [0, 1, 2, 3]), (8, [0, 1, 2, 3]), (9, [0]), (10, []), (11, [])]
def oVPhB26_13 : List (Nat × List Nat) := [(0, []), (1, [0]), (2, [0, 1]), (3, [0]), (4, [0]), (5, [0]), (6, [0, 1, 2, 3, 4, 5]), (7, [0, 1, 2, 3, 4, 5, 6]), (8, [0, 1, 2, 3, 4, 5]), (9, [0, 1, 2, 3, 4, 5]), (10, [0, 1, 2, 3, 4, 5]), (11, [0]), (12, [0, 1, 2, 3, 4, 5, 6, 7, 8, 9, 10, 11]), (13, [0, 1, 2, 3, 4, 5, 6, 7, 8, 9, 10, 11]), (14, [0]), (15, [0]), (16, [0, 1, 2, 3, 4, 5, 6, 7, 8, 9, 10, 11, 12, 13, 14, 15]), (17, [0, 1, 2, 3, 4, 5, 6, 7, 8, 9, 10, 11, 12, 13, 14, 15]), (18, [0, 1, 2, 3, 4, 5, 6, 7, 8, 9, 10, 11, 12, 13, 14, 15, 16, 17]), (19, [0, 1, 2, 3, 4, 5, 6, 7, 8, 9, 10, 11, 12, 13, 14, 15, 16, 17]), (20, [0, 1, 2, 3, 4, 5, 6, 7, 8, 9, 10, 11, 12, 13, 14, 15, 16, 17]), (21, [0, 1, 2, 3, 4, 5, 6, 7, 8, 9, 10, 11, 12, 13, 14, 15]), (22, [0]), (23, []), (24, [])]
theorem priE_no {n : List Ned} {l : List Pri} (h : ¬ priS n l) : priE n l = 3 := if_pos h
theorem priE_one {n : List Ned} {l : List Pri} (h : priS n l) (h2 : ¬ priB l) : priE n l = 1 := by unfold priE; rw [if_neg (fun q => q h), if_pos h2]
theorem priE_ok {n : List Ned} {l : List Pri} (h : priS n l) (h2 : priB l) : priE n l = 0 := by unfold priE; rw [if_neg (fun q => q h), if_neg (fun q => q h2)]
set_option maxHeartbeats 4000000 in
theorem p25 (n : List Ned) (l : List Pri) (hn : n.length ≤ 2^40) (hl : l.length ≤ 2^40) : FSpec Tryz.prog 25 [.d (neds n), .d (pris l)] [] (fun y r => y = .d (.int .i64 (priE n l)) ∧ r = []) := by
 refine spec_of hT (C := []) Tryz.func25 rfl Tryz.call25 rfl rfl rfl ?_
 conv => whnf
 repeat' (first | (refine br_intro ?_ ?_ <;> intro hb <;> (try simp only [brs] at hb) <;> conv => whnf) | (refine RegX.rule (id := 6) hT rfl [] oVPhB25_6 (by decide +kernel) ?_; conv => whnf) | omega | (refine And.intro ?_ ?_; ((try dsimp only); first | omega | (refine szA rfl ?_; omega) | (refine szB rfl ?_; omega) | (unfold inI64; omega) | exact rfl | (simp only [lns] at *; omega) | decide | (unfold inI64; decide)); conv => whnf) | decide | assumption)
 · refine .ret _ ?_
   conv => whnf
   refine ⟨[], ⟨?_, rfl⟩, trivial⟩
   conv => lhs; whnf
   rw [priE_no (fun q => by have := q.1; omega)]
 refine LoopX.rule hT (C := []) (ι := Nat) (fun i => i ≤ l.length ∧ ∀ j, j < i → (n.getD j nd0).st = (l.getD j pr00).st) (fun i => mkSt [(0, .d (neds n)), (1, .d (pris l)), (14, .d (pris l)), (15, .d (.int .i64 l.length)), (16, .d (.int .i64 i))] []) (fun i => l.length - i) 0 ⟨Nat.zero_le _, fun j hj => absurd hj (Nat.not_lt_zero _)⟩ ?_ ?_
 · exact Entails.mk' [] rfl rfl ⟨lr, lr, lr, lr, lr, trivial⟩ trivial
 rintro i ⟨hi, ha⟩
 have hi : i ≤ l.length := hi
 have ha : ∀ j, j < i → (n.getD j nd0).st = (l.getD j pr00).st := ha
 rcases Nat.lt_or_ge i l.length with hil | hil
 · conv => whnf
   repeat' (first | (refine br_intro ?_ ?_ <;> intro hb <;> (try simp only [brs] at hb) <;> conv => whnf) | (refine RegX.rule (id := 6) hT rfl [] oVPhB25_6 (by decide +kernel) ?_; conv => whnf) | omega | (refine And.intro ?_ ?_; ((try dsimp only); first | omega | (refine szA rfl ?_; omega) | (refine szB rfl ?_; omega) | (unfold inI64; omega) | exact rfl | (simp only [lns] at *; omega) | decide | (unfold inI64; decide)); conv => whnf) | decide | assumption)
   all_goals try (exfalso; omega)
   · refine .ret _ ?_
     conv => whnf
     refine ⟨[], ⟨?_, rfl⟩, trivial⟩
     conv => lhs; whnf
     rw [priE_no (fun q => hb (q.2 i hil).symm)]
   · exact ⟨i + 1, ⟨hil, fun j hj => by
      by_cases q : j = i
      · rw [q]; exact hb.symm
      · exact ha j (by omega)⟩, by omega, Entails.mk' [] rfl rfl ⟨lr, lr, lr, lr, lr, trivial⟩ trivial⟩
 · have hil : i = l.length := by omega
   subst hil
   have hS : priS n l := ⟨by omega, ha⟩
   conv => whnf
   repeat' (first | (refine br_intro ?_ ?_ <;> intro hb <;> (try simp only [brs] at hb) <;> conv => whnf) | (refine RegX.rule (id := 6) hT rfl [] oVPhB25_6 (by decide +kernel) ?_; conv => whnf) | omega | (refine And.intro ?_ ?_; ((try dsimp only); first | omega | (refine szA rfl ?_; omega) | (refine szB rfl ?_; omega) | (unfold inI64; omega) | exact rfl | (simp only [lns] at *; omega) | decide | (unfold inI64; decide)); conv => whnf) | decide | assumption)
   all_goals try (exfalso; omega)
   refine LoopX.rule hT (C := []) (ι := Nat) (fun i => i ≤ l.length ∧ ∀ j, j < i → -10000000 ≤ (l.getD j pr00).cents ∧ (l.getD j pr00).cents ≤ 10000000) (fun i => mkSt [(30, .d (pris l)), (31, .d (.int .i64 l.length)), (32, .d (.int .i64 i))] []) (fun i => l.length - i) 0 ⟨Nat.zero_le _, fun j hj => absurd hj (Nat.not_lt_zero _)⟩ ?_ ?_
   · exact Entails.mk' [] rfl rfl ⟨lr, lr, lr, trivial⟩ trivial
   rintro i ⟨hi, ha⟩
   have hi : i ≤ l.length := hi
   have ha : ∀ j, j < i → -10000000 ≤ (l.getD j pr00).cents ∧ (l.getD j pr00).cents ≤ 10000000 := ha
   rcases Nat.lt_or_ge i l.length with hil | hil
   · conv => whnf
     repeat' (first | (refine CallX.exact (s109 _ _ _) rfl rfl ?_; rotate_right; conv => whnf) | (refine br_intro ?_ ?_ <;> intro hb <;> (try simp only [brs] at hb) <;> conv => whnf) | (refine RegX.rule (id := 6) hT rfl [] oVPhB25_6 (by decide +kernel) ?_; conv => whnf) | omega | (refine And.intro ?_ ?_; ((try dsimp only); first | omega | (refine szA rfl ?_; omega) | (refine szB rfl ?_; omega) | (unfold inI64; omega) | exact rfl | (simp only [lns] at *; omega) | decide | (unfold inI64; decide)); conv => whnf) | decide | assumption)
     all_goals try (exfalso; omega)
     all_goals first
      | (refine .ret _ ?_
         conv => whnf
         refine ⟨[], ⟨?_, rfl⟩, trivial⟩
         conv => lhs; whnf
         rw [priE_one hS (fun q => by have := q i hil; omega)]
         done)
      | exact ⟨i + 1, ⟨hil, fun j hj => by
         by_cases q : j = i
         · rw [q]; omega
         · exact ha j (by omega)⟩, by omega, Entails.mk' [] rfl rfl ⟨lr, lr, lr, trivial⟩ trivial⟩
   · have hil : i = l.length := by omega
     subst hil
     conv => whnf
     repeat' (first | (refine br_intro ?_ ?_ <;> intro hb <;> (try simp only [brs] at hb) <;> conv => whnf) | (refine RegX.rule (id := 6) hT rfl [] oVPhB25_6 (by decide +kernel) ?_; conv => whnf) | omega | (refine And.intro ?_ ?_; ((try dsimp only); first | omega | (refine szA rfl ?_; omega) | (refine szB rfl ?_; omega) | (unfold inI64; omega) | exact rfl | (simp only [lns] at *; omega) | decide | (unfold inI64; decide)); conv => whnf) | decide | assumption)
     all_goals try (exfalso; omega)
     refine .ret _ ?_
     conv => whnf
     refine ⟨[], ⟨?_, rfl⟩, trivial⟩
     conv => lhs; whnf
     rw [priE_ok hS ha]
set_option maxHeartbeats 4000000 in
theorem p26 (n : List Ned) (r : List Roa) (l : List Pri) (hn : ndsE n = 0) (hr : rdsE r = 0) (hp : priE n l = 0) : FSpec Tryz.prog 26 [.d (neds n), .d (roas r), .d (pris l)] [] (fun y q => y = .d (.int .i64 (bouN n r l)) ∧ q = []) := by
 obtain ⟨hS, hB⟩ := priE_zero hp
 have hll := hS.1
 have hnl := (nds_all hn).1
 have hrl := (rds_all hr).1
 have hmn := ned_many hn
 rw [bouN_eq]
 obtain ⟨T, hTd⟩ : ∃ T : Nat → Int, T = fun i => buF n l i - su (fun k => buC n r l k i) n.length := ⟨_, rfl⟩
 rw [← hTd]
 have hcs : ∀ i k, k ≤ n.length → 0 ≤ su (fun k => buC n r l k i) k ∧ su (fun k => buC n r l k i) k ≤ 4000000000 := fun i k hk => by
  have := su_bd (F := fun k => buC n r l k i) (b := 400000000) (n := k) (fun v _ => buC_bd hn hr hB v i)
  omega
 have hTb : ∀ i, -4400000000 ≤ T i ∧ T i ≤ 4400000000 := fun i => by
  have h1 := buF_bd hn hB i
  have h2 := hcs i n.length (Nat.le_refl _)
  rw [hTd]; show -4400000000 ≤ _ - _ ∧ _ - _ ≤ _; omega
 have hTs : ∀ i, i ≤ n.length → -44000000000 ≤ su T i ∧ su T i ≤ 44000000000 := fun i hi => by
  have := su_sb (F := T) (b := 4400000000) (by omega) (n := i) (fun v _ => hTb v)
  omega
 refine spec_of hT (C := []) Tryz.func26 rfl Tryz.call26 rfl rfl rfl ?_
 conv => whnf
 repeat' (first | (refine br_intro ?_ ?_ <;> intro hb <;> (try simp only [brs] at hb) <;> conv => whnf) | (refine RegX.rule (id := 7) hT rfl [] oVPhB26_7 (by decide +kernel) ?_; conv => whnf) | (refine RegX.rule (id := 5) hT rfl [] oVPhB26_5 (by decide +kernel) ?_; conv => whnf) | (refine RegX.rule (id := 13) hT rfl [] oVPhB26_13 (by decide +kernel) ?_; conv => whnf) | omega | (refine And.intro ?_ ?_; ((try dsimp only); first | omega | (refine szA rfl ?_; omega) | (refine szB rfl ?_; omega) | (unfold inI64; omega) | exact rfl | (simp only [lns] at *; omega) | decide | (unfold inI64; decide)); conv => whnf) | decide | assumption)
 refine LoopX.rule hT (C := []) (ι := Nat) (fun i => i ≤ n.length) (fun i => mkSt [(0, .d (neds n)), (1, .d (roas r)), (2, .d (pris l)), (7, .d (.int .i64 (su T i))), (14, .d (neds n)), (15, .d (.int .i64 n.length)), (16, .d (.int .i64 i))] []) (fun i => n.length - i) 0 (Nat.zero_le _) ?_ ?_
 · exact Entails.mk' [] rfl rfl ⟨lr, lr, lr, lr, lr, lr, lr, trivial⟩ trivial
 rintro i hi
 have hi : i ≤ n.length := hi
 have e1 : (i : Int).toNat = i := Int.toNat_natCast i
 rcases Nat.lt_or_ge i n.length with hin | hin
 · have hs1 := hTs i hi
   have hm := hmn i
   have hpb := pc_bd hB i
   unfold manyP at hm
   unfold pc at hpb
   rw [← e1] at hm hpb
   have hF := buF_bd hn hB i
   by_cases hpos : 0 < (n.getD i nd0).many
   · have hv : su T i - (n.getD (i : Int).toNat nd0).many * (max 0 (l.getD (i : Int).toNat pr00).cents) = su T i + buF n l i := by
      rw [e1]
      have w1 : wntF n i = 0 := by unfold wntF manyP; omega
      have w2 : havF n i = (n.getD i nd0).many := by unfold havF manyP; omega
      unfold buF
      rw [w1, w2, Int.zero_mul]; unfold pc; omega
     have hmul := mul_nb (x := (n.getD (i : Int).toNat nd0).many) (y := max 0 (l.getD (i : Int).toNat pr00).cents) (a := 20) (b := 10000000) ⟨by rw [e1]; omega, by omega⟩ ⟨by omega, by omega⟩
     conv => whnf
     repeat' (first | (refine And.intro (show inI64 ((n.getD (i : Int).toNat nd0).many * max 0 (l.getD (i : Int).toNat pr00).cents) by unfold inI64; omega) ?_; conv => whnf) | (refine And.intro (show inI64 (su T i - (n.getD (i : Int).toNat nd0).many * max 0 (l.getD (i : Int).toNat pr00).cents) by unfold inI64; omega) ?_; conv => whnf) | (refine br_intro ?_ ?_ <;> intro hb <;> (try simp only [brs] at hb) <;> conv => whnf) | (refine RegX.rule (id := 7) hT rfl [] oVPhB26_7 (by decide +kernel) ?_; conv => whnf) | (refine RegX.rule (id := 5) hT rfl [] oVPhB26_5 (by decide +kernel) ?_; conv => whnf) | (refine RegX.rule (id := 13) hT rfl [] oVPhB26_13 (by decide +kernel) ?_; conv => whnf) | omega | (refine And.intro ?_ ?_; ((try dsimp only); first | omega | (refine szA rfl ?_; omega) | (refine szB rfl ?_; omega) | (unfold inI64; omega) | exact rfl | (simp only [lns] at *; omega) | decide | (unfold inI64; decide)); conv => whnf) | decide | assumption)
     all_goals try (exfalso; omega)
     refine LoopX.rule hT (C := []) (ι := Nat) (fun k => k ≤ n.length) (fun k => mkSt [(0, .d (neds n)), (1, .d (roas r)), (2, .d (pris l)), (7, .d (.int .i64 (su T i + buF n l i - su (fun k => buC n r l k i) k))), (8, .d (.int .i64 i)), (9, .ptr 9 0), (14, .d (neds n)), (15, .d (.int .i64 n.length)), (16, .d (.int .i64 i)), (47, .d (neds n)), (48, .d (.int .i64 n.length)), (49, .d (.int .i64 k))] [(9, .cells 58 ((ndF (n.getD (i : Int).toNat nd0)).map .d))]) (fun k => n.length - k) 0 (Nat.zero_le _) ?_ ?_
     · exact Entails.mk' [(9, 9)] rfl rfl ⟨lr, lr, lr, SV.le_int (hv.trans (Int.sub_zero _).symm), lr, lr, lr, lr, lr, lr, lr, lr, trivial⟩ ⟨rr, trivial⟩
     rintro k hk
     have hk : k ≤ n.length := hk
     have e2 : (k : Int).toNat = k := Int.toNat_natCast k
     rcases Nat.lt_or_ge k n.length with hkn | hkn
     · have hmk := hmn k
       have hpk := pc_bd hB k
       have hck := hcs i k hk
       have hbc := buC_bd (r := r) hn hr hB k i
       unfold manyP at hmk
       unfold pc at hpk
       rw [← e2] at hmk hpk
       have h113 := z113 r (by omega) (n.getD (k : Int).toNat nd0).st (n.getD (i : Int).toNat nd0).st
       by_cases hcell : (roadO r (n.getD k nd0).st (n.getD i nd0).st).isSome = true ∧ 0 < (n.getD k nd0).many ∧ (n.getD i nd0).many < 0
       · obtain ⟨q1, q2, q3⟩ := hcell
         have hce : arCell n r k i = some ⟨k, i, ((roadO r (n.getD k nd0).st (n.getD i nd0).st).getD rd0).car⟩ := by
          unfold arCell wayO
          rw [if_pos ⟨q2, q3⟩]
          cases hro : roadO r (n.getD k nd0).st (n.getD i nd0).st with
          | none => rw [hro] at q1; cases q1
          | some x => rfl
         have hcar := wayO_bd hr (arCell_some hce).2.2
         have hcar : 0 ≤ ((roadO r (n.getD (k : Int).toNat nd0).st (n.getD (i : Int).toNat nd0).st).getD rd0).car ∧ ((roadO r (n.getD (k : Int).toNat nd0).st (n.getD (i : Int).toNat nd0).st).getD rd0).car ≤ 1000000 := by rw [e1, e2]; exact hcar
         have hW : max 0 ((l.getD (i : Int).toNat pr00).cents - (l.getD (k : Int).toNat pr00).cents - ((roadO r (n.getD (k : Int).toNat nd0).st (n.getD (i : Int).toNat nd0).st).getD rd0).car) * min (n.getD (k : Int).toNat nd0).many (0 - (n.getD (i : Int).toNat nd0).many) = buC n r l k i := by
          rw [e1, e2]
          unfold buC
          rw [hce]
          have w1 : havF n k = (n.getD k nd0).many := by unfold havF manyP; omega
          have w2 : wntF n i = 0 - (n.getD i nd0).many := by unfold wntF manyP; omega
          show _ = buX n l ⟨k, i, _⟩
          unfold buX
          rw [w1, w2]; rfl
         rw [← hW] at hbc
         conv => whnf
         repeat' (first | (refine CallX.exact (h113) rfl rfl ?_; rotate_right; conv => whnf) | (refine And.intro (show inI64 (max 0 ((l.getD (i : Int).toNat pr00).cents - (l.getD (k : Int).toNat pr00).cents - ((roadO r (n.getD (k : Int).toNat nd0).st (n.getD (i : Int).toNat nd0).st).getD rd0).car) * min (n.getD (k : Int).toNat nd0).many (0 - (n.getD (i : Int).toNat nd0).many)) by unfold inI64; omega) ?_; conv => whnf) | (refine And.intro (show inI64 (su T i + buF n l i - su (fun k => buC n r l k i) k - max 0 ((l.getD (i : Int).toNat pr00).cents - (l.getD (k : Int).toNat pr00).cents - ((roadO r (n.getD (k : Int).toNat nd0).st (n.getD (i : Int).toNat nd0).st).getD rd0).car) * min (n.getD (k : Int).toNat nd0).many (0 - (n.getD (i : Int).toNat nd0).many)) by unfold inI64; omega) ?_; conv => whnf) | (refine br_intro ?_ ?_ <;> intro hb <;> (try simp only [brs] at hb) <;> conv => whnf) | (refine RegX.rule (id := 7) hT rfl [] oVPhB26_7 (by decide +kernel) ?_; conv => whnf) | (refine RegX.rule (id := 5) hT rfl [] oVPhB26_5 (by decide +kernel) ?_; conv => whnf) | (refine RegX.rule (id := 13) hT rfl [] oVPhB26_13 (by decide +kernel) ?_; conv => whnf) | omega | (refine And.intro ?_ ?_; ((try dsimp only); first | omega | (refine szA rfl ?_; omega) | (refine szB rfl ?_; omega) | (unfold inI64; omega) | exact rfl | (simp only [lns] at *; omega) | decide | (unfold inI64; decide)); conv => whnf) | decide | assumption)
         all_goals try (exfalso; first | omega | (have hb2 : (roadO r (n.getD k nd0).st (n.getD i nd0).st).isSome = false := hb; rw [q1] at hb2; cases hb2))
         all_goals
          refine ⟨k + 1, hkn, by show n.length - (k + 1) < n.length - k; omega, Entails.mk' [(9, 9)] rfl rfl ⟨lr, lr, lr, SV.le_int ?_, lr, lr, lr, lr, lr, lr, lr, lr, trivial⟩ ⟨rr, trivial⟩⟩
          show su T i + buF n l i - su (fun k => buC n r l k i) k - max 0 ((l.getD (i : Int).toNat pr00).cents - (l.getD (k : Int).toNat pr00).cents - ((roadO r (n.getD (k : Int).toNat nd0).st (n.getD (i : Int).toNat nd0).st).getD rd0).car) * min (n.getD (k : Int).toNat nd0).many (0 - (n.getD (i : Int).toNat nd0).many) = _
          rw [hW, su]; omega
       · have hce : buC n r l k i = 0 := by
          unfold buC
          cases h : arCell n r k i with
          | none => rfl
          | some x =>
            exfalso
            obtain ⟨_, q1, q2⟩ := arCell_some h
            refine hcell ⟨?_, q1⟩
            unfold wayO at q2
            rw [Option.map_eq_some_iff] at q2
            obtain ⟨y, hy, _⟩ := q2
            rw [hy]; rfl
         conv => whnf
         repeat' (first | (refine CallX.exact (h113) rfl rfl ?_; rotate_right; conv => whnf) | (refine br_intro ?_ ?_ <;> intro hb <;> (try simp only [brs] at hb) <;> conv => whnf) | (refine RegX.rule (id := 7) hT rfl [] oVPhB26_7 (by decide +kernel) ?_; conv => whnf) | (refine RegX.rule (id := 5) hT rfl [] oVPhB26_5 (by decide +kernel) ?_; conv => whnf) | (refine RegX.rule (id := 13) hT rfl [] oVPhB26_13 (by decide +kernel) ?_; conv => whnf) | omega | (refine And.intro ?_ ?_; ((try dsimp only); first | omega | (refine szA rfl ?_; omega) | (refine szB rfl ?_; omega) | (unfold inI64; omega) | exact rfl | (simp only [lns] at *; omega) | decide | (unfold inI64; decide)); conv => whnf) | decide | assumption)
         all_goals try (exfalso; first | omega | (refine hcell ⟨?_, ?_, ?_⟩ <;> first | assumption | omega))
         all_goals
          refine ⟨k + 1, hkn, by show n.length - (k + 1) < n.length - k; omega, Entails.mk' [(9, 9)] rfl rfl ⟨lr, lr, lr, SV.le_int ?_, lr, lr, lr, lr, lr, lr, lr, lr, trivial⟩ ⟨rr, trivial⟩⟩
          rw [su, hce]; omega
     · have hkn : k = n.length := by omega
       subst hkn
       conv => whnf
       repeat' (first | (refine br_intro ?_ ?_ <;> intro hb <;> (try simp only [brs] at hb) <;> conv => whnf) | (refine RegX.rule (id := 7) hT rfl [] oVPhB26_7 (by decide +kernel) ?_; conv => whnf) | (refine RegX.rule (id := 5) hT rfl [] oVPhB26_5 (by decide +kernel) ?_; conv => whnf) | (refine RegX.rule (id := 13) hT rfl [] oVPhB26_13 (by decide +kernel) ?_; conv => whnf) | omega | (refine And.intro ?_ ?_; ((try dsimp only); first | omega | (refine szA rfl ?_; omega) | (refine szB rfl ?_; omega) | (unfold inI64; omega) | exact rfl | (simp only [lns] at *; omega) | decide | (unfold inI64; decide)); conv => whnf) | decide | assumption)
       all_goals try (exfalso; omega)
       refine ⟨i + 1, hin, by show n.length - (i + 1) < n.length - i; omega, Entails.mk' [] rfl rfl ⟨lr, lr, lr, SV.le_int ?_, lr, lr, lr, trivial⟩ trivial⟩
       have hTi : T i = buF n l i - su (fun k => buC n r l k i) n.length := by rw [hTd]
       show _ = su T i + T i
       rw [hTi]; omega
   · have hv : su T i + (0 - (n.getD (i : Int).toNat nd0).many) * (l.getD (i : Int).toNat pr00).cents = su T i + buF n l i := by
      rw [e1]
      have w1 : wntF n i = 0 - (n.getD i nd0).many := by unfold wntF manyP; omega
      have w2 : havF n i = 0 := by unfold havF manyP; omega
      unfold buF
      rw [w1, w2, Int.zero_mul]; unfold pc; omega
     have hmul := mul_bd (x := 0 - (n.getD (i : Int).toNat nd0).many) (y := (l.getD (i : Int).toNat pr00).cents) (a := 20) (b := 10000000) ⟨by rw [e1]; omega, by omega⟩ ⟨by omega, by omega⟩
     conv => whnf
     repeat' (first | (refine And.intro (show inI64 ((0 - (n.getD (i : Int).toNat nd0).many) * (l.getD (i : Int).toNat pr00).cents) by unfold inI64; omega) ?_; conv => whnf) | (refine And.intro (show inI64 (su T i + (0 - (n.getD (i : Int).toNat nd0).many) * (l.getD (i : Int).toNat pr00).cents) by unfold inI64; omega) ?_; conv => whnf) | (refine br_intro ?_ ?_ <;> intro hb <;> (try simp only [brs] at hb) <;> conv => whnf) | (refine RegX.rule (id := 7) hT rfl [] oVPhB26_7 (by decide +kernel) ?_; conv => whnf) | (refine RegX.rule (id := 5) hT rfl [] oVPhB26_5 (by decide +kernel) ?_; conv => whnf) | (refine RegX.rule (id := 13) hT rfl [] oVPhB26_13 (by decide +kernel) ?_; conv => whnf) | omega | (refine And.intro ?_ ?_; ((try dsimp only); first | omega | (refine szA rfl ?_; omega) | (refine szB rfl ?_; omega) | (unfold inI64; omega) | exact rfl | (simp only [lns] at *; omega) | decide | (unfold inI64; decide)); conv => whnf) | decide | assumption)
     all_goals try (exfalso; omega)
     refine LoopX.rule hT (C := []) (ι := Nat) (fun k => k ≤ n.length) (fun k => mkSt [(0, .d (neds n)), (1, .d (roas r)), (2, .d (pris l)), (7, .d (.int .i64 (su T i + buF n l i - su (fun k => buC n r l k i) k))), (8, .d (.int .i64 i)), (9, .ptr 9 0), (14, .d (neds n)), (15, .d (.int .i64 n.length)), (16, .d (.int .i64 i)), (47, .d (neds n)), (48, .d (.int .i64 n.length)), (49, .d (.int .i64 k))] [(9, .cells 58 ((ndF (n.getD (i : Int).toNat nd0)).map .d))]) (fun k => n.length - k) 0 (Nat.zero_le _) ?_ ?_
     · exact Entails.mk' [(9, 9)] rfl rfl ⟨lr, lr, lr, SV.le_int (hv.trans (Int.sub_zero _).symm), lr, lr, lr, lr, lr, lr, lr, lr, trivial⟩ ⟨rr, trivial⟩
     rintro k hk
     have hk : k ≤ n.length := hk
     have e2 : (k : Int).toNat = k := Int.toNat_natCast k
     rcases Nat.lt_or_ge k n.length with hkn | hkn
     · have hmk := hmn k
       have hpk := pc_bd hB k
       have hck := hcs i k hk
       have hbc := buC_bd (r := r) hn hr hB k i
       unfold manyP at hmk
       unfold pc at hpk
       rw [← e2] at hmk hpk
       have h113 := z113 r (by omega) (n.getD (k : Int).toNat nd0).st (n.getD (i : Int).toNat nd0).st
       by_cases hcell : (roadO r (n.getD k nd0).st (n.getD i nd0).st).isSome = true ∧ 0 < (n.getD k nd0).many ∧ (n.getD i nd0).many < 0
       · obtain ⟨q1, q2, q3⟩ := hcell
         have hce : arCell n r k i = some ⟨k, i, ((roadO r (n.getD k nd0).st (n.getD i nd0).st).getD rd0).car⟩ := by
          unfold arCell wayO
          rw [if_pos ⟨q2, q3⟩]
          cases hro : roadO r (n.getD k nd0).st (n.getD i nd0).st with
          | none => rw [hro] at q1; cases q1
          | some x => rfl
         have hcar := wayO_bd hr (arCell_some hce).2.2
         have hcar : 0 ≤ ((roadO r (n.getD (k : Int).toNat nd0).st (n.getD (i : Int).toNat nd0).st).getD rd0).car ∧ ((roadO r (n.getD (k : Int).toNat nd0).st (n.getD (i : Int).toNat nd0).st).getD rd0).car ≤ 1000000 := by rw [e1, e2]; exact hcar
         have hW : max 0 ((l.getD (i : Int).toNat pr00).cents - (l.getD (k : Int).toNat pr00).cents - ((roadO r (n.getD (k : Int).toNat nd0).st (n.getD (i : Int).toNat nd0).st).getD rd0).car) * min (n.getD (k : Int).toNat nd0).many (0 - (n.getD (i : Int).toNat nd0).many) = buC n r l k i := by
          rw [e1, e2]
          unfold buC
          rw [hce]
          have w1 : havF n k = (n.getD k nd0).many := by unfold havF manyP; omega
          have w2 : wntF n i = 0 - (n.getD i nd0).many := by unfold wntF manyP; omega
          show _ = buX n l ⟨k, i, _⟩
          unfold buX
          rw [w1, w2]; rfl
         rw [← hW] at hbc
         conv => whnf
         repeat' (first | (refine CallX.exact (h113) rfl rfl ?_; rotate_right; conv => whnf) | (refine And.intro (show inI64 (max 0 ((l.getD (i : Int).toNat pr00).cents - (l.getD (k : Int).toNat pr00).cents - ((roadO r (n.getD (k : Int).toNat nd0).st (n.getD (i : Int).toNat nd0).st).getD rd0).car) * min (n.getD (k : Int).toNat nd0).many (0 - (n.getD (i : Int).toNat nd0).many)) by unfold inI64; omega) ?_; conv => whnf) | (refine And.intro (show inI64 (su T i + buF n l i - su (fun k => buC n r l k i) k - max 0 ((l.getD (i : Int).toNat pr00).cents - (l.getD (k : Int).toNat pr00).cents - ((roadO r (n.getD (k : Int).toNat nd0).st (n.getD (i : Int).toNat nd0).st).getD rd0).car) * min (n.getD (k : Int).toNat nd0).many (0 - (n.getD (i : Int).toNat nd0).many)) by unfold inI64; omega) ?_; conv => whnf) | (refine br_intro ?_ ?_ <;> intro hb <;> (try simp only [brs] at hb) <;> conv => whnf) | (refine RegX.rule (id := 7) hT rfl [] oVPhB26_7 (by decide +kernel) ?_; conv => whnf) | (refine RegX.rule (id := 5) hT rfl [] oVPhB26_5 (by decide +kernel) ?_; conv => whnf) | (refine RegX.rule (id := 13) hT rfl [] oVPhB26_13 (by decide +kernel) ?_; conv => whnf) | omega | (refine And.intro ?_ ?_; ((try dsimp only); first | omega | (refine szA rfl ?_; omega) | (refine szB rfl ?_; omega) | (unfold inI64; omega) | exact rfl | (simp only [lns] at *; omega) | decide | (unfold inI64; decide)); conv => whnf) | decide | assumption)
         all_goals try (exfalso; first | omega | (have hb2 : (roadO r (n.getD k nd0).st (n.getD i nd0).st).isSome = false := hb; rw [q1] at hb2; cases hb2))
         all_goals
          refine ⟨k + 1, hkn, by show n.length - (k + 1) < n.length - k; omega, Entails.mk' [(9, 9)] rfl rfl ⟨lr, lr, lr, SV.le_int ?_, lr, lr, lr, lr, lr, lr, lr, lr, trivial⟩ ⟨rr, trivial⟩⟩
          show su T i + buF n l i - su (fun k => buC n r l k i) k - max 0 ((l.getD (i : Int).toNat pr00).cents - (l.getD (k : Int).toNat pr00).cents - ((roadO r (n.getD (k : Int).toNat nd0).st (n.getD (i : Int).toNat nd0).st).getD rd0).car) * min (n.getD (k : Int).toNat nd0).many (0 - (n.getD (i : Int).toNat nd0).many) = _
          rw [hW, su]; omega
       · have hce : buC n r l k i = 0 := by
          unfold buC
          cases h : arCell n r k i with
          | none => rfl
          | some x =>
            exfalso
            obtain ⟨_, q1, q2⟩ := arCell_some h
            refine hcell ⟨?_, q1⟩
            unfold wayO at q2
            rw [Option.map_eq_some_iff] at q2
            obtain ⟨y, hy, _⟩ := q2
            rw [hy]; rfl
         conv => whnf
         repeat' (first | (refine CallX.exact (h113) rfl rfl ?_; rotate_right; conv => whnf) | (refine br_intro ?_ ?_ <;> intro hb <;> (try simp only [brs] at hb) <;> conv => whnf) | (refine RegX.rule (id := 7) hT rfl [] oVPhB26_7 (by decide +kernel) ?_; conv => whnf) | (refine RegX.rule (id := 5) hT rfl [] oVPhB26_5 (by decide +kernel) ?_; conv => whnf) | (refine RegX.rule (id := 13) hT rfl [] oVPhB26_13 (by decide +kernel) ?_; conv => whnf) | omega | (refine And.intro ?_ ?_; ((try dsimp only); first | omega | (refine szA rfl ?_; omega) | (refine szB rfl ?_; omega) | (unfold inI64; omega) | exact rfl | (simp only [lns] at *; omega) | decide | (unfold inI64; decide)); conv => whnf) | decide | assumption)
         all_goals try (exfalso; first | omega | (refine hcell ⟨?_, ?_, ?_⟩ <;> first | assumption | omega))
         all_goals
          refine ⟨k + 1, hkn, by show n.length - (k + 1) < n.length - k; omega, Entails.mk' [(9, 9)] rfl rfl ⟨lr, lr, lr, SV.le_int ?_, lr, lr, lr, lr, lr, lr, lr, lr, trivial⟩ ⟨rr, trivial⟩⟩
          rw [su, hce]; omega
     · have hkn : k = n.length := by omega
       subst hkn
       conv => whnf
       repeat' (first | (refine br_intro ?_ ?_ <;> intro hb <;> (try simp only [brs] at hb) <;> conv => whnf) | (refine RegX.rule (id := 7) hT rfl [] oVPhB26_7 (by decide +kernel) ?_; conv => whnf) | (refine RegX.rule (id := 5) hT rfl [] oVPhB26_5 (by decide +kernel) ?_; conv => whnf) | (refine RegX.rule (id := 13) hT rfl [] oVPhB26_13 (by decide +kernel) ?_; conv => whnf) | omega | (refine And.intro ?_ ?_; ((try dsimp only); first | omega | (refine szA rfl ?_; omega) | (refine szB rfl ?_; omega) | (unfold inI64; omega) | exact rfl | (simp only [lns] at *; omega) | decide | (unfold inI64; decide)); conv => whnf) | decide | assumption)
       all_goals try (exfalso; omega)
       refine ⟨i + 1, hin, by show n.length - (i + 1) < n.length - i; omega, Entails.mk' [] rfl rfl ⟨lr, lr, lr, SV.le_int ?_, lr, lr, lr, trivial⟩ trivial⟩
       have hTi : T i = buF n l i - su (fun k => buC n r l k i) n.length := by rw [hTd]
       show _ = su T i + T i
       rw [hTi]; omega
 · have hin : i = n.length := by omega
   subst hin
   conv => whnf
   repeat' (first | (refine br_intro ?_ ?_ <;> intro hb <;> (try simp only [brs] at hb) <;> conv => whnf) | (refine RegX.rule (id := 7) hT rfl [] oVPhB26_7 (by decide +kernel) ?_; conv => whnf) | (refine RegX.rule (id := 5) hT rfl [] oVPhB26_5 (by decide +kernel) ?_; conv => whnf) | (refine RegX.rule (id := 13) hT rfl [] oVPhB26_13 (by decide +kernel) ?_; conv => whnf) | omega | (refine And.intro ?_ ?_; ((try dsimp only); first | omega | (refine szA rfl ?_; omega) | (refine szB rfl ?_; omega) | (unfold inI64; omega) | exact rfl | (simp only [lns] at *; omega) | decide | (unfold inI64; decide)); conv => whnf) | decide | assumption)
   all_goals try (exfalso; omega)
   refine .ret _ ?_
   conv => whnf
   refine ⟨[], ⟨?_, rfl⟩, trivial⟩
   conv => lhs; whnf
def mvP (l : List Mov) : Prop := l.length ≤ 2500 ∧ ∀ m ∈ l, 0 ≤ m.many ∧ m.many ≤ 1000000
theorem costN_b2 {r : List Roa} {l : List Mov} (hr : rdsE r = 0) (h : mvP l) : ∀ k, k ≤ l.length → 0 ≤ costN r l k ∧ costN r l k ≤ 1000000000000 * k := by
 intro k
 induction k with
 | zero => intro _; simp [costN]
 | succ k ih =>
   intro hk
   have h1 := ih (by omega)
   have h2 := h.2 _ (getD_mem (l := l) (x := mv0) (i := k) (by omega))
   have h3 := roadC_bd hr (l.getD k mv0).a (l.getD k mv0).b
   have h4 := mul_nb h2 h3
   rw [costN]
   omega
set_option maxHeartbeats 4000000 in
theorem p17 (r : List Roa) (l : List Mov) (hr : rdsE r = 0) (hl : mvP l) : FSpec Tryz.prog 17 [.d (roas r), .d (movs l)] [] (fun y q => y = .d (.int .i64 (costN r l l.length)) ∧ q = []) := by
 have hrl := (rds_all hr).1
 have hll := hl.1
 refine spec_of hT (C := []) Tryz.func17 rfl Tryz.call17 rfl rfl rfl ?_
 conv => whnf
 repeat' (first | (refine br_intro ?_ ?_ <;> intro hb <;> (try simp only [brs] at hb) <;> conv => whnf) | omega | (refine And.intro ?_ ?_; ((try dsimp only); first | omega | (refine szA rfl ?_; omega) | (refine szB rfl ?_; omega) | (unfold inI64; omega) | exact rfl | (simp only [lns] at *; omega) | decide | (unfold inI64; decide)); conv => whnf) | decide | assumption)
 refine LoopX.rule hT (C := []) (ι := Nat) (fun i => i ≤ l.length) (fun i => mkSt [(0, .d (roas r)), (5, .d (.int .i64 (costN r l i))), (10, .d (movs l)), (11, .d (.int .i64 l.length)), (12, .d (.int .i64 i))] []) (fun i => l.length - i) 0 (Nat.zero_le _) ?_ ?_
 · exact Entails.mk' [] rfl rfl ⟨lr, lr, lr, lr, lr, trivial⟩ trivial
 rintro i hi
 have hi : i ≤ l.length := hi
 have e1 : (i : Int).toNat = i := Int.toNat_natCast i
 have hb1 := costN_b2 hr hl i hi
 rcases Nat.lt_or_ge i l.length with hil | hil
 · have h2 := hl.2 _ (getD_mem (l := l) (x := mv0) (i := (i : Int).toNat) (by omega))
   have h3 := roadC_bd hr (l.getD (i : Int).toNat mv0).a (l.getD (i : Int).toNat mv0).b
   have h4 := mul_nb h2 h3
   have h113 := z113 r (by omega) (l.getD (i : Int).toNat mv0).a (l.getD (i : Int).toNat mv0).b
   conv => whnf
   repeat' (first | (refine CallX.exact (h113) rfl rfl ?_; rotate_right; conv => whnf) | (refine And.intro (show inI64 ((l.getD (i : Int).toNat mv0).many * ((roadO r (l.getD (i : Int).toNat mv0).a (l.getD (i : Int).toNat mv0).b).getD rd0).car) by unfold inI64; omega) ?_; conv => whnf) | (refine And.intro (show inI64 (costN r l i + (l.getD (i : Int).toNat mv0).many * ((roadO r (l.getD (i : Int).toNat mv0).a (l.getD (i : Int).toNat mv0).b).getD rd0).car) by unfold inI64; omega) ?_; conv => whnf) | (refine br_intro ?_ ?_ <;> intro hb <;> (try simp only [brs] at hb) <;> conv => whnf) | omega | (refine And.intro ?_ ?_; ((try dsimp only); first | omega | (refine szA rfl ?_; omega) | (refine szB rfl ?_; omega) | (unfold inI64; omega) | exact rfl | (simp only [lns] at *; omega) | decide | (unfold inI64; decide)); conv => whnf) | decide | assumption)
   all_goals try (exfalso; omega)
   exact ⟨i + 1, hil, by show l.length - (i + 1) < l.length - i; omega, Entails.mk' [] rfl rfl ⟨lr, lr, lr, lr, lr, trivial⟩ trivial⟩
 · have hil : i = l.length := by omega
   subst hil
   conv => whnf
   repeat' (first | (refine br_intro ?_ ?_ <;> intro hb <;> (try simp only [brs] at hb) <;> conv => whnf) | omega | (refine And.intro ?_ ?_; ((try dsimp only); first | omega | (refine szA rfl ?_; omega) | (refine szB rfl ?_; omega) | (unfold inI64; omega) | exact rfl | (simp only [lns] at *; omega) | decide | (unfold inI64; decide)); conv => whnf) | decide | assumption)
   all_goals try (exfalso; omega)
   refine .ret _ ?_
   conv => whnf
   refine ⟨[], ⟨?_, rfl⟩, trivial⟩
   conv => lhs; whnf
def oVPiA63_6 : List (Nat × List Nat) := [(0, []), (1, [0]), (2, [0]), (3, [0]), (4, [0]), (5, [0, 1, 2, 3, 4]), (6, [0]), (7, [0]), (8, [0, 1, 2, 3, 4, 5, 6, 7]), (9, [0, 1, 2, 3, 4, 5, 6, 7]), (10, [0]), (11, [0, 1, 2, 3, 4, 5, 6, 7, 8, 9, 10]), (12, [0, 1, 2, 3, 4, 5, 6, 7, 8, 9, 10]), (13, [0, 1, 2, 3, 4, 5, 6, 7, 8, 9, 10]), (14, [0, 1, 2, 3, 4, 5, 6, 7, 8, 9, 10]), (15, [0, 1, 2, 3, 4, 5, 6, 7, 8, 9, 10, 11, 12, 13, 14]), (16, [0, 1, 2, 3, 4, 5, 6, 7, 8, 9, 10]), (17, [0, 1, 2, 3, 4, 5, 6, 7, 8, 9, 10]), (18, [0, 1, 2, 3, 4, 5, 6, 7, 8, 9, 10, 11, 12, 13, 14, 15, 16, 17]), (19, [0, 1, 2, 3, 4, 5, 6, 7, 8, 9, 10, 11, 12, 13, 14, 15, 16, 17]), (20, [0, 1, 2, 3, 4, 5, 6, 7, 8, 9, 10, 11, 12, 13, 14, 15, 16, 17]), (21, [0, 1, 2, 3, 4, 5, 6, 7, 8, 9, 10]), (22, [0]), (23, []), (24, [])]
def oVPiA63_11 : List (Nat × List Nat) := [(0, []), (1, [0]), (2, [0, 1]), (3, [0, 1]), (4, [0]), (5, [0]), (6, [0]), (7, [0, 1, 2, 3, 4, 5, 6]), (8, [0, 1, 2, 3, 4, 5, 6, 7]), (9, [0, 1, 2, 3, 4, 5, 6, 7]), (10, [0, 1, 2, 3, 4, 5, 6]), (11, [0, 1, 2, 3, 4, 5, 6]), (12, [0, 1, 2, 3, 4, 5, 6]), (13, [0]), (14, [0, 1, 2, 3, 4, 5, 6, 7, 8, 9, 10, 11, 12, 13]), (15, [0, 1, 2, 3, 4, 5, 6, 7, 8, 9, 10, 11, 12, 13]), (16, [0]), (17, [0]), (18, [0, 1, 2, 3, 4, 5, 6, 7, 8, 9, 10, 11, 12, 13, 14, 15, 16, 17]), (19, [0, 1, 2, 3, 4, 5, 6, 7, 8, 9, 10, 11, 12, 13, 14, 15, 16, 17]), (20, [0, 1, 2, 3, 4, 5, 6, 7, 8, 9, 10, 11, 12, 13, 14, 15, 16, 17]), (21, [0, 1, 2, 3, 4, 5, 6, 7, 8, 9, 10, 11, 12, 13, 14, 15, 16, 17]), (22, [0, 1, 2, 3, 4, 5, 6, 7, 8, 9, 10, 11, 12, 13, 14, 15, 16, 17, 18, 19, 20, 21]), (23, [0, 1, 2, 3, 4, 5, 6, 7, 8, 9, 10, 11, 12, 13, 14, 15, 16, 17, 18, 19, 20, 21]), (24, [0, 1, 2, 3, 4, 5, 6, 7, 8, 9, 10, 11, 12, 13, 14, 15, 16, 17]), (25, [0, 1, 2, 3, 4, 5, 6, 7, 8, 9, 10, 11, 12, 13, 14, 15, 16, 17]), (26, [0, 1, 2, 3, 4, 5, 6, 7, 8, 9, 10, 11, 12, 13, 14, 15, 16, 17, 18, 19, 20, 21, 22, 23, 24, 25]), (27, [0, 1, 2, 3, 4, 5, 6, 7, 8, 9, 10, 11, 12, 13, 14, 15, 16, 17, 18, 19, 20, 21, 22, 23, 24, 25]), (28, [0, 1, 2, 3, 4, 5, 6, 7, 8, 9, 10, 11, 12, 13, 14, 15, 16, 17, 18, 19, 20, 21, 22, 23, 24, 25]), (29, [0, 1, 2, 3, 4, 5, 6, 7, 8, 9, 10, 11, 12, 13, 14, 15, 16, 17, 18, 19, 20, 21, 22, 23, 24, 25]), (30, [0, 1, 2, 3, 4, 5, 6, 7, 8, 9, 10, 11, 12, 13, 14, 15, 16, 17, 18, 19, 20, 21, 22, 23, 24, 25, 26, 27, 28, 29]), (31, [0, 1, 2, 3, 4, 5, 6, 7, 8, 9, 10, 11, 12, 13, 14, 15, 16, 17, 18, 19, 20, 21, 22, 23, 24, 25, 26, 27, 28, 29]), (32, [0, 1, 2, 3, 4, 5, 6, 7, 8, 9, 10, 11, 12, 13, 14, 15, 16, 17, 18, 19, 20, 21, 22, 23, 24, 25]), (33, [0, 1, 2, 3, 4, 5, 6, 7, 8, 9, 10, 11, 12, 13, 14, 15, 16, 17, 18, 19, 20, 21, 22, 23, 24, 25]), (34, [0, 1, 2, 3, 4, 5, 6, 7, 8, 9, 10, 11, 12, 13, 14, 15, 16, 17]), (35, [0]), (36, []), (37, [])]
theorem p83 (x : Ned) (y : Pri) : FSpec Tryz.prog 83 [.agg ((ndF x).map .d), .agg ((puF y).map .d)] [] (fun v r => v = .d (.bool (x.st == y.st)) ∧ r = []) := by
 refine spec_of hT (C := []) Tryz.func83 rfl Tryz.call83 rfl rfl rfl ?_
 conv => whnf
 repeat' (first | (refine br_intro ?_ ?_ <;> intro hb <;> (try simp only [brs] at hb) <;> conv => whnf) | omega | (refine And.intro ?_ ?_; ((try dsimp only); first | omega | (refine szA rfl ?_; omega) | (refine szB rfl ?_; omega) | (unfold inI64; omega) | exact rfl | (simp only [lns] at *; omega) | decide | (unfold inI64; decide)); conv => whnf) | decide | assumption)
 all_goals
  refine .ret _ ?_
  conv => whnf
  refine ⟨[], ⟨?_, rfl⟩, trivial⟩
  conv => lhs; whnf
  try first | rfl | (simp; done) | (simp [hb]; done)
set_option maxHeartbeats 4000000 in
theorem p82 (n : List Ned) (l : List Pri) (hn : n.length ≤ 2^40) (hl : l.length ≤ 2^40) : FSpec Tryz.prog 82 [.d (neds n), .d (pris l), .fn 83 []] [] (fun y r => y = .d (.bool (decide (priS n l))) ∧ r = []) := by
 refine spec_of hT (C := []) Tryz.func82 rfl Tryz.call82 rfl rfl rfl ?_
 conv => whnf
 repeat' (first | (refine br_intro ?_ ?_ <;> intro hb <;> (try simp only [brs] at hb) <;> conv => whnf) | omega | (refine And.intro ?_ ?_; ((try dsimp only); first | omega | (refine szA rfl ?_; omega) | (refine szB rfl ?_; omega) | (unfold inI64; omega) | exact rfl | (simp only [lns] at *; omega) | decide | (unfold inI64; decide)); conv => whnf) | decide | assumption)
 · refine .ret _ ?_
   conv => whnf
   refine ⟨[], ⟨?_, rfl⟩, trivial⟩
   conv => lhs; whnf
   rw [decide_eq_false (fun q => by have := q.1; omega)]
 refine LoopX.rule hT (C := []) (ι := Nat) (fun i => i ≤ l.length ∧ ∀ j, j < i → (n.getD j nd0).st = (l.getD j pr00).st) (fun i => mkSt [(1, .d (pris l)), (2, .fn 83 []), (15, .d (neds n)), (16, .d (.int .i64 n.length)), (17, .d (.int .i64 i))] []) (fun i => l.length - i) 0 ⟨Nat.zero_le _, fun j hj => absurd hj (Nat.not_lt_zero _)⟩ ?_ ?_
 · exact Entails.mk' [] rfl rfl ⟨lr, lr, lr, lr, lr, trivial⟩ trivial
 rintro i ⟨hi, ha⟩
 have hi : i ≤ l.length := hi
 have ha : ∀ j, j < i → (n.getD j nd0).st = (l.getD j pr00).st := ha
 have e1 : (i : Int).toNat = i := Int.toNat_natCast i
 rcases Nat.lt_or_ge i l.length with hil | hil
 · have h83 := p83 (n.getD (i : Int).toNat nd0) (l.getD (i : Int).toNat pr00)
   by_cases hq : (n.getD i nd0).st = (l.getD i pr00).st
   · have hbq : ((n.getD (i : Int).toNat nd0).st == (l.getD (i : Int).toNat pr00).st) = true := by rw [e1]; simpa using hq
     rw [hbq] at h83
     conv => whnf
     repeat' (first | (refine CallX.exact (h83) rfl rfl ?_; rotate_right; conv => whnf) | (refine br_intro ?_ ?_ <;> intro hb <;> (try simp only [brs] at hb) <;> conv => whnf) | omega | (refine And.intro ?_ ?_; ((try dsimp only); first | omega | (refine szA rfl ?_; omega) | (refine szB rfl ?_; omega) | (unfold inI64; omega) | exact rfl | (simp only [lns] at *; omega) | decide | (unfold inI64; decide)); conv => whnf) | decide | assumption)
     all_goals try (exfalso; omega)
     exact ⟨i + 1, ⟨hil, fun j hj => by
      by_cases q : j = i
      · rw [q]; exact hq
      · exact ha j (by omega)⟩, by omega, Entails.mk' [] rfl rfl ⟨lr, lr, lr, lr, lr, trivial⟩ trivial⟩
   · have hbq : ((n.getD (i : Int).toNat nd0).st == (l.getD (i : Int).toNat pr00).st) = false := by rw [e1]; simpa using hq
     rw [hbq] at h83
     conv => whnf
     repeat' (first | (refine CallX.exact (h83) rfl rfl ?_; rotate_right; conv => whnf) | (refine br_intro ?_ ?_ <;> intro hb <;> (try simp only [brs] at hb) <;> conv => whnf) | omega | (refine And.intro ?_ ?_; ((try dsimp only); first | omega | (refine szA rfl ?_; omega) | (refine szB rfl ?_; omega) | (unfold inI64; omega) | exact rfl | (simp only [lns] at *; omega) | decide | (unfold inI64; decide)); conv => whnf) | decide | assumption)
     all_goals try (exfalso; omega)
     refine .ret _ ?_
     conv => whnf
     refine ⟨[], ⟨?_, rfl⟩, trivial⟩
     conv => lhs; whnf
     rw [decide_eq_false (fun q => hq (q.2 i hil))]
 · have hil : i = l.length := by omega
   subst hil
   conv => whnf
   repeat' (first | (refine br_intro ?_ ?_ <;> intro hb <;> (try simp only [brs] at hb) <;> conv => whnf) | omega | (refine And.intro ?_ ?_; ((try dsimp only); first | omega | (refine szA rfl ?_; omega) | (refine szB rfl ?_; omega) | (unfold inI64; omega) | exact rfl | (simp only [lns] at *; omega) | decide | (unfold inI64; decide)); conv => whnf) | decide | assumption)
   all_goals try (exfalso; omega)
   refine .ret _ ?_
   conv => whnf
   refine ⟨[], ⟨?_, rfl⟩, trivial⟩
   conv => lhs; whnf
   rw [decide_eq_true (show priS n l from ⟨by omega, ha⟩)]
set_option maxHeartbeats 4000000 in
theorem p62 (n : List Ned) (l : List Pri) (hn : n.length ≤ 2^40) (hl : l.length ≤ 2^40) : FSpec Tryz.prog 62 [.d (neds n), .d (pris l)] [] (fun y r => y = .d (.int .i64 (priE n l)) ∧ r = []) := by
 have h82 := p82 n l hn hl
 by_cases hS : priS n l
 · rw [decide_eq_true hS] at h82
   refine spec_of hT (C := []) Tryz.func62 rfl Tryz.call62 rfl rfl rfl ?_
   conv => whnf
   repeat' (first | (refine CallX.exact (h82) rfl rfl ?_; rotate_right; conv => whnf) | (refine br_intro ?_ ?_ <;> intro hb <;> (try simp only [brs] at hb) <;> conv => whnf) | omega | (refine And.intro ?_ ?_; ((try dsimp only); first | omega | (refine szA rfl ?_; omega) | (refine szB rfl ?_; omega) | (unfold inI64; omega) | exact rfl | (simp only [lns] at *; omega) | decide | (unfold inI64; decide)); conv => whnf) | decide | assumption)
   all_goals try (exfalso; omega)
   refine LoopX.rule hT (C := []) (ι := Nat) (fun i => i ≤ l.length ∧ ∀ j, j < i → -10000000 ≤ (l.getD j pr00).cents ∧ (l.getD j pr00).cents ≤ 10000000) (fun i => mkSt [(11, .d (pris l)), (12, .d (.int .i64 l.length)), (13, .d (.int .i64 i))] []) (fun i => l.length - i) 0 ⟨Nat.zero_le _, fun j hj => absurd hj (Nat.not_lt_zero _)⟩ ?_ ?_
   · exact Entails.mk' [] rfl rfl ⟨lr, lr, lr, trivial⟩ trivial
   rintro i ⟨hi, ha⟩
   have hi : i ≤ l.length := hi
   have ha : ∀ j, j < i → -10000000 ≤ (l.getD j pr00).cents ∧ (l.getD j pr00).cents ≤ 10000000 := ha
   rcases Nat.lt_or_ge i l.length with hil | hil
   · conv => whnf
     repeat' (first | (refine CallX.exact (s119 _ _ _) rfl rfl ?_; rotate_right; conv => whnf) | (refine br_intro ?_ ?_ <;> intro hb <;> (try simp only [brs] at hb) <;> conv => whnf) | omega | (refine And.intro ?_ ?_; ((try dsimp only); first | omega | (refine szA rfl ?_; omega) | (refine szB rfl ?_; omega) | (unfold inI64; omega) | exact rfl | (simp only [lns] at *; omega) | decide | (unfold inI64; decide)); conv => whnf) | decide | assumption)
     all_goals try (exfalso; omega)
     all_goals first
      | (refine .ret _ ?_
         conv => whnf
         refine ⟨[], ⟨?_, rfl⟩, trivial⟩
         conv => lhs; whnf
         rw [priE_one hS (fun q => by have := q i hil; omega)]
         done)
      | exact ⟨i + 1, ⟨hil, fun j hj => by
         by_cases q : j = i
         · rw [q]; omega
         · exact ha j (by omega)⟩, by omega, Entails.mk' [] rfl rfl ⟨lr, lr, lr, trivial⟩ trivial⟩
   · have hil : i = l.length := by omega
     subst hil
     conv => whnf
     repeat' (first | (refine br_intro ?_ ?_ <;> intro hb <;> (try simp only [brs] at hb) <;> conv => whnf) | omega | (refine And.intro ?_ ?_; ((try dsimp only); first | omega | (refine szA rfl ?_; omega) | (refine szB rfl ?_; omega) | (unfold inI64; omega) | exact rfl | (simp only [lns] at *; omega) | decide | (unfold inI64; decide)); conv => whnf) | decide | assumption)
     all_goals try (exfalso; omega)
     refine .ret _ ?_
     conv => whnf
     refine ⟨[], ⟨?_, rfl⟩, trivial⟩
     conv => lhs; whnf
     rw [priE_ok hS ha]
 · rw [decide_eq_false hS] at h82
   refine spec_of hT (C := []) Tryz.func62 rfl Tryz.call62 rfl rfl rfl ?_
   conv => whnf
   repeat' (first | (refine CallX.exact (h82) rfl rfl ?_; rotate_right; conv => whnf) | (refine br_intro ?_ ?_ <;> intro hb <;> (try simp only [brs] at hb) <;> conv => whnf) | omega | (refine And.intro ?_ ?_; ((try dsimp only); first | omega | (refine szA rfl ?_; omega) | (refine szB rfl ?_; omega) | (unfold inI64; omega) | exact rfl | (simp only [lns] at *; omega) | decide | (unfold inI64; decide)); conv => whnf) | decide | assumption)
   all_goals try (exfalso; omega)
   refine .ret _ ?_
   conv => whnf
   refine ⟨[], ⟨?_, rfl⟩, trivial⟩
   conv => lhs; whnf
   rw [priE_no hS]
set_option maxHeartbeats 8000000 in
theorem p63 (n : List Ned) (r : List Roa) (l : List Pri) (hn : ndsE n = 0) (hr : rdsE r = 0) (hp : priE n l = 0) : FSpec Tryz.prog 63 [.d (neds n), .d (roas r), .d (pris l)] [] (fun y q => y = .d (.int .i64 (bouN n r l)) ∧ q = []) := by
 obtain ⟨hS, hB⟩ := priE_zero hp
 have hll := hS.1
 have hnl := (nds_all hn).1
 have hal := arL_len hn r
 have hll2 : (arcs n r).length = (arL n r).length := List.length_map _
 have hhl : (havL n).length = n.length := fillA_length
 have hwl : (wntL n).length = n.length := fillA_length
 have hFs : ∀ i, i ≤ n.length → -4000000000 ≤ su (buF n l) i ∧ su (buF n l) i ≤ 4000000000 := fun i hi => by
  have := su_sb (F := buF n l) (b := 400000000) (by omega) (n := i) (fun v _ => buF_bd hn hB v)
  omega
 obtain ⟨X, hX⟩ : ∃ X : Nat → Int, X = fun j => buX n l ((arL n r).getD j a30) := ⟨_, rfl⟩
 have hbou : bouN n r l = su (buF n l) n.length - su X (arL n r).length := by rw [hX]; rfl
 have hXb : ∀ j, j < (arL n r).length → 0 ≤ X j ∧ X j ≤ 400000000 := fun j hj => by
  rw [hX]
  exact buX_bd hn hB (wayO_bd hr (arL_mem (nwG_at (n := n) (r := r) (k := j) hj)).2.2).1
 have hXs : ∀ k, k ≤ (arL n r).length → 0 ≤ su X k ∧ su X k ≤ 40000000000 := fun k hk => by
  have := su_bd (F := X) (b := 400000000) (n := k) (fun v hv => hXb v (by omega))
  omega
 rw [hbou]
 refine spec_of hT (C := []) Tryz.func63 rfl Tryz.call63 rfl rfl rfl ?_
 conv => whnf
 repeat' (first | (refine CallX.of (p59 n r hn hr) [(20, 20), (15, 1001), (18, 1002), (500, 1003)] rfl ⟨lr, lr, trivial⟩ trivial rfl rfl ?_; rintro x rout ⟨rfl, rfl⟩; refine ⟨rfl, ?_⟩; conv => whnf) | (refine br_intro ?_ ?_ <;> intro hb <;> (try simp only [brs] at hb) <;> conv => whnf) | (refine RegX.rule (id := 6) hT rfl [] oVPiA63_6 (by decide +kernel) ?_; conv => whnf) | (refine RegX.rule (id := 11) hT rfl [] oVPiA63_11 (by decide +kernel) ?_; conv => whnf) | omega | (refine And.intro ?_ ?_; ((try dsimp only); first | omega | (refine szA rfl ?_; omega) | (refine szB rfl ?_; omega) | (unfold inI64; omega) | exact rfl | (simp only [lns] at *; omega) | decide | (unfold inI64; decide)); conv => whnf) | decide | assumption)
 refine LoopX.freeze 1003 108 4 _ _ rfl ?_
 refine LoopX.rule hT (C := []) (ι := Nat) (fun i => i ≤ n.length) (fun i => mkSt [(2, .d (pris l)), (7, .ptr 20 0), (8, .d (.int .i64 (su (buF n l) i))), (16, .d (pris l)), (17, .d (.int .i64 l.length)), (18, .d (.int .i64 i))] [(20, tpV (havL n) (wntL n) (arcs n r))]) (fun i => n.length - i) 0 (Nat.zero_le _) ?_ ?_
 · refine (Entails.froCell 20 1001 1 _ 0 _ rfl rfl rfl).trans ?_
   refine (Entails.froCell 20 1002 1 _ 1 _ rfl rfl rfl).trans ?_
   refine (Entails.froCell 20 1003 4 _ 2 _ rfl rfl rfl).trans ?_
   exact Entails.mk' [(20, 20)] rfl rfl ⟨lr, lr, lr, lr, lr, lr, trivial⟩ ⟨rr, trivial⟩
 rintro i hi
 have hi : i ≤ n.length := hi
 have e1 : (i : Int).toNat = i := Int.toNat_natCast i
 rcases Nat.lt_or_ge i n.length with hin | hin
 · have hs1 := hFs i hi
   have hs2 := buF_bd hn hB i
   have v1 : (havL n).getD (i : Int).toNat 0 = havF n i := by rw [e1]; exact getI_hav hin
   have v2 : (wntL n).getD (i : Int).toNat 0 = wntF n i := by rw [e1]; exact getI_wnt hin
   have v3 := havF_bd hn i
   have v4 := pc_bd hB i
   have v5 : (l.getD (i : Int).toNat pr00).cents = pc l i := by rw [e1]; rfl
   have m1 := mul_bd v3.2 (b := 10000000) ⟨v4.1, v4.2⟩
   have m2 := mul_nb v3.1 (y := max 0 (pc l i)) (b := 10000000) ⟨by omega, by omega⟩
   have hv : (wntL n).getD (i : Int).toNat 0 * (l.getD (i : Int).toNat pr00).cents - (havL n).getD (i : Int).toNat 0 * max 0 (l.getD (i : Int).toNat pr00).cents = buF n l i := by rw [v1, v2, v5]; rfl
   conv => whnf
   repeat' (first | (refine And.intro (show inI64 ((wntL n).getD (i : Int).toNat 0 * (l.getD (i : Int).toNat pr00).cents) by rw [v2, v5]; unfold inI64; omega) ?_; conv => whnf) | (refine And.intro (show inI64 ((havL n).getD (i : Int).toNat 0 * max 0 (l.getD (i : Int).toNat pr00).cents) by rw [v1, v5]; unfold inI64; omega) ?_; conv => whnf) | (refine And.intro (show inI64 ((wntL n).getD (i : Int).toNat 0 * (l.getD (i : Int).toNat pr00).cents - (havL n).getD (i : Int).toNat 0 * max 0 (l.getD (i : Int).toNat pr00).cents) by rw [hv]; unfold inI64; omega) ?_; conv => whnf) | (refine And.intro (show inI64 (su (buF n l) i + ((wntL n).getD (i : Int).toNat 0 * (l.getD (i : Int).toNat pr00).cents - (havL n).getD (i : Int).toNat 0 * max 0 (l.getD (i : Int).toNat pr00).cents)) by rw [hv]; unfold inI64; omega) ?_; conv => whnf) | (refine br_intro ?_ ?_ <;> intro hb <;> (try simp only [brs] at hb) <;> conv => whnf) | (refine RegX.rule (id := 6) hT rfl [] oVPiA63_6 (by decide +kernel) ?_; conv => whnf) | (refine RegX.rule (id := 11) hT rfl [] oVPiA63_11 (by decide +kernel) ?_; conv => whnf) | omega | (refine And.intro ?_ ?_; ((try dsimp only); first | omega | (refine szA rfl ?_; omega) | (refine szB rfl ?_; omega) | (unfold inI64; omega) | exact rfl | (simp only [lns] at *; omega) | decide | (unfold inI64; decide)); conv => whnf) | decide | assumption)
   all_goals try (exfalso; omega)
   refine ⟨i + 1, hin, by show n.length - (i + 1) < n.length - i; omega, Entails.mk' [(20, 20)] rfl rfl ⟨lr, lr, SV.le_int ?_, lr, lr, lr, trivial⟩ ⟨rr, trivial⟩⟩
   show su (buF n l) i + ((wntL n).getD (i : Int).toNat 0 * (l.getD (i : Int).toNat pr00).cents - (havL n).getD (i : Int).toNat 0 * max 0 (l.getD (i : Int).toNat pr00).cents) = _
   rw [hv]; rfl
 · have hin : i = n.length := by omega
   rw [hin]
   have hs1 := hFs n.length (Nat.le_refl _)
   conv => whnf
   repeat' (first | (refine br_intro ?_ ?_ <;> intro hb <;> (try simp only [brs] at hb) <;> conv => whnf) | (refine RegX.rule (id := 6) hT rfl [] oVPiA63_6 (by decide +kernel) ?_; conv => whnf) | (refine RegX.rule (id := 11) hT rfl [] oVPiA63_11 (by decide +kernel) ?_; conv => whnf) | omega | (refine And.intro ?_ ?_; ((try dsimp only); first | omega | (refine szA rfl ?_; omega) | (refine szB rfl ?_; omega) | (unfold inI64; omega) | exact rfl | (simp only [lns] at *; omega) | decide | (unfold inI64; decide)); conv => whnf) | decide | assumption)
   all_goals try (exfalso; omega)
   refine LoopX.rule hT (C := []) (ι := Nat) (fun k => k ≤ (arL n r).length) (fun k => mkSt [(2, .d (pris l)), (7, .ptr 20 0), (8, .d (.int .i64 (su (buF n l) n.length - su X k))), (51, .d (seqD 4 arF ar0 (arcs n r))), (52, .d (.int .i64 (arcs n r).length)), (53, .d (.int .i64 k))] [(20, tpV (havL n) (wntL n) (arcs n r))]) (fun k => (arL n r).length - k) 0 (Nat.zero_le _) ?_ ?_
   · exact Entails.mk' [(20, 20)] rfl rfl ⟨lr, lr, SV.le_int (Int.sub_zero _).symm, lr, lr, lr, trivial⟩ ⟨rr, trivial⟩
   rintro k hk
   have hk : k ≤ (arL n r).length := hk
   have e2 : (k : Int).toNat = k := Int.toNat_natCast k
   rcases Nat.lt_or_ge k (arL n r).length with hka | hka
   · have hm := arL_mem (nwG_at (n := n) (r := r) (k := k) hka)
     have hcar := wayO_bd hr hm.2.2
     have u1 : ((arcs n r).getD (k : Int).toNat ar0).fr = (((arL n r).getD k a30).fr : Nat) := by rw [e2, arcs_get]; rfl
     have u2 : ((arcs n r).getD (k : Int).toNat ar0).to = (((arL n r).getD k a30).to : Nat) := by rw [e2, arcs_get]; rfl
     have u3 : ((arcs n r).getD (k : Int).toNat ar0).car = ((arL n r).getD k a30).car := by rw [e2, arcs_get]; rfl
     have b1 := pc_bd hB ((arL n r).getD k a30).fr
     have b2 := pc_bd hB ((arL n r).getD k a30).to
     have w1 : (l.getD ((arcs n r).getD (k : Int).toNat ar0).fr.toNat pr00).cents = pc l ((arL n r).getD k a30).fr := by rw [u1, Int.toNat_natCast]; rfl
     have w2 : (l.getD ((arcs n r).getD (k : Int).toNat ar0).to.toNat pr00).cents = pc l ((arL n r).getD k a30).to := by rw [u2, Int.toNat_natCast]; rfl
     have w3 : (havL n).getD ((arcs n r).getD (k : Int).toNat ar0).fr.toNat 0 = havF n ((arL n r).getD k a30).fr := by rw [u1, Int.toNat_natCast]; exact getI_hav hm.1.1
     have w4 : (wntL n).getD ((arcs n r).getD (k : Int).toNat ar0).to.toNat 0 = wntF n ((arL n r).getD k a30).to := by rw [u2, Int.toNat_natCast]; exact getI_wnt hm.2.1.1
     have hi1 := hm.1.1
     have hi2 := hm.2.1.1
     have hXk := hXb k hka
     have hXs1 := hXs k hk
     have hW : max 0 ((l.getD ((arcs n r).getD (k : Int).toNat ar0).to.toNat pr00).cents - (l.getD ((arcs n r).getD (k : Int).toNat ar0).fr.toNat pr00).cents - ((arcs n r).getD (k : Int).toNat ar0).car) * min ((havL n).getD ((arcs n r).getD (k : Int).toNat ar0).fr.toNat 0) ((wntL n).getD ((arcs n r).getD (k : Int).toNat ar0).to.toNat 0) = X k := by rw [w1, w2, w3, w4, u3, hX]; rfl
     conv => whnf
     repeat' (first | (refine And.intro (show inI64 (max 0 ((l.getD ((arcs n r).getD (k : Int).toNat ar0).to.toNat pr00).cents - (l.getD ((arcs n r).getD (k : Int).toNat ar0).fr.toNat pr00).cents - ((arcs n r).getD (k : Int).toNat ar0).car) * min ((havL n).getD ((arcs n r).getD (k : Int).toNat ar0).fr.toNat 0) ((wntL n).getD ((arcs n r).getD (k : Int).toNat ar0).to.toNat 0)) by rw [hW]; unfold inI64; omega) ?_; conv => whnf) | (refine And.intro (show inI64 (su (buF n l) n.length - su X k - max 0 ((l.getD ((arcs n r).getD (k : Int).toNat ar0).to.toNat pr00).cents - (l.getD ((arcs n r).getD (k : Int).toNat ar0).fr.toNat pr00).cents - ((arcs n r).getD (k : Int).toNat ar0).car) * min ((havL n).getD ((arcs n r).getD (k : Int).toNat ar0).fr.toNat 0) ((wntL n).getD ((arcs n r).getD (k : Int).toNat ar0).to.toNat 0)) by rw [hW]; unfold inI64; omega) ?_; conv => whnf) | (refine br_intro ?_ ?_ <;> intro hb <;> (try simp only [brs] at hb) <;> conv => whnf) | (refine RegX.rule (id := 6) hT rfl [] oVPiA63_6 (by decide +kernel) ?_; conv => whnf) | (refine RegX.rule (id := 11) hT rfl [] oVPiA63_11 (by decide +kernel) ?_; conv => whnf) | omega | (refine And.intro ?_ ?_; ((try dsimp only); first | omega | (refine szA rfl ?_; omega) | (refine szB rfl ?_; omega) | (unfold inI64; omega) | exact rfl | (simp only [lns] at *; omega) | decide | (unfold inI64; decide)); conv => whnf) | decide | assumption)
     all_goals try (exfalso; omega)
     refine ⟨k + 1, hka, by show (arL n r).length - (k + 1) < (arL n r).length - k; omega, Entails.mk' [(20, 20)] rfl rfl ⟨lr, lr, SV.le_int ?_, lr, lr, lr, trivial⟩ ⟨rr, trivial⟩⟩
     show su (buF n l) n.length - su X k - max 0 ((l.getD ((arcs n r).getD (k : Int).toNat ar0).to.toNat pr00).cents - (l.getD ((arcs n r).getD (k : Int).toNat ar0).fr.toNat pr00).cents - ((arcs n r).getD (k : Int).toNat ar0).car) * min ((havL n).getD ((arcs n r).getD (k : Int).toNat ar0).fr.toNat 0) ((wntL n).getD ((arcs n r).getD (k : Int).toNat ar0).to.toNat 0) = su (buF n l) n.length - (su X k + X k)
     rw [hW]; omega
   · have hka : k = (arL n r).length := by omega
     rw [hka]
     conv => whnf
     repeat' (first | (refine br_intro ?_ ?_ <;> intro hb <;> (try simp only [brs] at hb) <;> conv => whnf) | (refine RegX.rule (id := 6) hT rfl [] oVPiA63_6 (by decide +kernel) ?_; conv => whnf) | (refine RegX.rule (id := 11) hT rfl [] oVPiA63_11 (by decide +kernel) ?_; conv => whnf) | omega | (refine And.intro ?_ ?_; ((try dsimp only); first | omega | (refine szA rfl ?_; omega) | (refine szB rfl ?_; omega) | (unfold inI64; omega) | exact rfl | (simp only [lns] at *; omega) | decide | (unfold inI64; decide)); conv => whnf) | decide | assumption)
     all_goals try (exfalso; omega)
     refine .ret _ ?_
     conv => whnf
     refine ⟨[], ⟨?_, rfl⟩, trivial⟩
     conv => lhs; whnf
theorem p56 (l : List Ned) (s : List UInt8) (hl : l.length ≤ 2^40) : FSpec Tryz.prog 56 [.d (neds l), .d (.str s)] [] (fun y r => y = .d (.int .i64 (manyN l s)) ∧ r = []) := by
 refine spec_of hT (C := []) Tryz.func56 rfl Tryz.call56 rfl rfl rfl ?_
 conv => whnf
 repeat' (first | (refine br_intro ?_ ?_ <;> intro hb <;> (try simp only [brs] at hb) <;> conv => whnf) | omega | (refine And.intro ?_ ?_; ((try dsimp only); first | omega | (refine szA rfl ?_; omega) | (refine szB rfl ?_; omega) | (unfold inI64; omega) | exact rfl | (simp only [lns] at *; omega) | decide | (unfold inI64; decide)); conv => whnf) | decide | assumption)
 refine LoopX.rule hT (C := []) (ι := Nat) (fun i => i ≤ l.length ∧ ∀ j, j < i → ((l.getD j nd0).st == s) = false) (fun i => mkSt [(1, .d (.str s)), (7, .d (neds l)), (8, .d (.int .i64 l.length)), (9, .d (.int .i64 i))] []) (fun i => l.length - i) 0 ⟨Nat.zero_le _, fun j hj => absurd hj (Nat.not_lt_zero _)⟩ ?_ ?_
 · exact Entails.mk' [] rfl rfl ⟨lr, lr, lr, lr, trivial⟩ trivial
 rintro i ⟨hi, ha⟩
 have hi : i ≤ l.length := hi
 have ha : ∀ j, j < i → ((l.getD j nd0).st == s) = false := ha
 rcases Nat.lt_or_ge i l.length with hil | hil
 · conv => whnf
   repeat' (first | (refine br_intro ?_ ?_ <;> intro hb <;> (try simp only [brs] at hb) <;> conv => whnf) | omega | (refine And.intro ?_ ?_; ((try dsimp only); first | omega | (refine szA rfl ?_; omega) | (refine szB rfl ?_; omega) | (unfold inI64; omega) | exact rfl | (simp only [lns] at *; omega) | decide | (unfold inI64; decide)); conv => whnf) | decide | assumption)
   all_goals try (exfalso; omega)
   · refine .ret _ ?_
     conv => whnf
     refine ⟨[], ⟨?_, rfl⟩, trivial⟩
     conv => lhs; whnf
     have h1 : nedX l s = i := ixF_hit hil ha (by simpa using hb)
     unfold manyN
     rw [h1, if_pos (by omega), Int.toNat_natCast]
   · exact ⟨i + 1, ⟨hil, fun j hj => by
      by_cases q : j = i
      · rw [q]; simpa using hb
      · exact ha j (by omega)⟩, by omega, Entails.mk' [] rfl rfl ⟨lr, lr, lr, lr, trivial⟩ trivial⟩
 · have hil : i = l.length := by omega
   subst hil
   conv => whnf
   repeat' (first | (refine br_intro ?_ ?_ <;> intro hb <;> (try simp only [brs] at hb) <;> conv => whnf) | omega | (refine And.intro ?_ ?_; ((try dsimp only); first | omega | (refine szA rfl ?_; omega) | (refine szB rfl ?_; omega) | (unfold inI64; omega) | exact rfl | (simp only [lns] at *; omega) | decide | (unfold inI64; decide)); conv => whnf) | decide | assumption)
   all_goals try (exfalso; omega)
   refine .ret _ ?_
   conv => whnf
   refine ⟨[], ⟨?_, rfl⟩, trivial⟩
   conv => lhs; whnf
   have h1 : nedX l s = -1 := ixF_none ha
   unfold manyN
   rw [h1, if_neg (by omega)]
theorem p50 (l : List Ned) (s : List UInt8) (hl : l.length ≤ 2^40) : FSpec Tryz.prog 50 [.d (neds l), .d (.str s)] [] (fun y r => y = .d (.int .i64 (manyN l s)) ∧ r = []) := by
 refine spec_of hT (C := []) Tryz.func50 rfl Tryz.call50 rfl rfl rfl ?_
 conv => whnf
 repeat' (first | (refine br_intro ?_ ?_ <;> intro hb <;> (try simp only [brs] at hb) <;> conv => whnf) | omega | (refine And.intro ?_ ?_; ((try dsimp only); first | omega | (refine szA rfl ?_; omega) | (refine szB rfl ?_; omega) | (unfold inI64; omega) | exact rfl | (simp only [lns] at *; omega) | decide | (unfold inI64; decide)); conv => whnf) | decide | assumption)
 refine LoopX.rule hT (C := []) (ι := Nat) (fun i => i ≤ l.length ∧ ∀ j, j < i → ((l.getD j nd0).st == s) = false) (fun i => mkSt [(1, .d (.str s)), (7, .d (neds l)), (8, .d (.int .i64 l.length)), (9, .d (.int .i64 i))] []) (fun i => l.length - i) 0 ⟨Nat.zero_le _, fun j hj => absurd hj (Nat.not_lt_zero _)⟩ ?_ ?_
 · exact Entails.mk' [] rfl rfl ⟨lr, lr, lr, lr, trivial⟩ trivial
 rintro i ⟨hi, ha⟩
 have hi : i ≤ l.length := hi
 have ha : ∀ j, j < i → ((l.getD j nd0).st == s) = false := ha
 rcases Nat.lt_or_ge i l.length with hil | hil
 · conv => whnf
   repeat' (first | (refine br_intro ?_ ?_ <;> intro hb <;> (try simp only [brs] at hb) <;> conv => whnf) | omega | (refine And.intro ?_ ?_; ((try dsimp only); first | omega | (refine szA rfl ?_; omega) | (refine szB rfl ?_; omega) | (unfold inI64; omega) | exact rfl | (simp only [lns] at *; omega) | decide | (unfold inI64; decide)); conv => whnf) | decide | assumption)
   all_goals try (exfalso; omega)
   · refine .ret _ ?_
     conv => whnf
     refine ⟨[], ⟨?_, rfl⟩, trivial⟩
     conv => lhs; whnf
     have h1 : nedX l s = i := ixF_hit hil ha (by simpa using hb)
     unfold manyN
     rw [h1, if_pos (by omega), Int.toNat_natCast]
   · exact ⟨i + 1, ⟨hil, fun j hj => by
      by_cases q : j = i
      · rw [q]; simpa using hb
      · exact ha j (by omega)⟩, by omega, Entails.mk' [] rfl rfl ⟨lr, lr, lr, lr, trivial⟩ trivial⟩
 · have hil : i = l.length := by omega
   subst hil
   conv => whnf
   repeat' (first | (refine br_intro ?_ ?_ <;> intro hb <;> (try simp only [brs] at hb) <;> conv => whnf) | omega | (refine And.intro ?_ ?_; ((try dsimp only); first | omega | (refine szA rfl ?_; omega) | (refine szB rfl ?_; omega) | (unfold inI64; omega) | exact rfl | (simp only [lns] at *; omega) | decide | (unfold inI64; decide)); conv => whnf) | decide | assumption)
   all_goals try (exfalso; omega)
   refine .ret _ ?_
   conv => whnf
   refine ⟨[], ⟨?_, rfl⟩, trivial⟩
   conv => lhs; whnf
   have h1 : nedX l s = -1 := ixF_none ha
   unfold manyN
   rw [h1, if_neg (by omega)]
def hsN (l : List Mov) (s : List UInt8) : Nat → Bool
 | 0 => false
 | k + 1 => decide (s = (l.getD k mv0).b) || (decide (s = (l.getD k mv0).a) || hsN l s k)
def keyT : List DV → List UInt8
 | [.str s] => s
 | _ => []
abbrev mvdR (l : List Mov) (k : Nat) : Res := .map false false [.str] [.int .i64 0] (fun K => hsN l (keyT K) k) (fun K => [.int .i64 (mvdN l (keyT K) k)])
theorem mvdN_bd {l : List Mov} (h : mvsE l = 0) (s : List UInt8) {k : Nat} (hk : k ≤ l.length) : -50000 ≤ mvdN l s k ∧ mvdN l s k ≤ 50000 := by
 have h1 := awayN_bd h s k hk
 have h2 := hereN_bd h s k hk
 have h3 := (mvs_all h).1
 rw [mvdN_eq]; omega
theorem mvdR_step {l : List Mov} {k : Nat} (hab : (l.getD k mv0).a ≠ (l.getD k mv0).b) : Res.le (.map false false [.str] [.int .i64 0] (fun q => keyEq q [.str (l.getD k mv0).b] || (keyEq q [.str (l.getD k mv0).a] || hsN l (keyT q) k))
 (fun q => bif keyEq q [.str (l.getD k mv0).b] then [.int .i64 (mvdN l (l.getD k mv0).b k - (l.getD k mv0).many)] else bif keyEq q [.str (l.getD k mv0).a] then [.int .i64 (mvdN l (l.getD k mv0).a k + (l.getD k mv0).many)] else [.int .i64 (mvdN l (keyT q) k)])) (mvdR l (k + 1)) := Res.le_map fun K hK => by
 obtain ⟨s, rfl⟩ := wk_str hK
 rw [keyEq_str, keyEq_str]
 refine ⟨rfl, ?_⟩
 show (bif decide (s = (l.getD k mv0).b) then [DV.int .i64 (mvdN l (l.getD k mv0).b k - (l.getD k mv0).many)] else bif decide (s = (l.getD k mv0).a) then [.int .i64 (mvdN l (l.getD k mv0).a k + (l.getD k mv0).many)] else [.int .i64 (mvdN l s k)]) = [.int .i64 (mvdN l s (k + 1))]
 rw [mvdN]
 by_cases q : s = (l.getD k mv0).b
 · have q2 : ¬ (l.getD k mv0).a = s := fun z => hab (z.trans q)
   rw [decide_eq_true q, if_neg q2, if_pos q.symm, ← q]
   show [DV.int .i64 _] = _
   rw [show mvdN l s k - (l.getD k mv0).many = mvdN l s k + 0 - (l.getD k mv0).many by omega]
 · have q3 : ¬ (l.getD k mv0).b = s := fun z => q z.symm
   rw [decide_eq_false q, if_neg q3]
   by_cases q2 : s = (l.getD k mv0).a
   · rw [decide_eq_true q2, if_pos q2.symm, ← q2]
     show [DV.int .i64 _] = _
     rw [Int.sub_zero]
   · have q4 : ¬ (l.getD k mv0).a = s := fun z => q2 z.symm
     rw [decide_eq_false q2, if_neg q4]
     show [DV.int .i64 _] = _
     rw [Int.add_zero, Int.sub_zero]
theorem mov_ab {l : List Mov} (h : mvsE l = 0) {i : Nat} (hi : i < l.length) : (l.getD i mv0).a ≠ (l.getD i mv0).b := fun q => by
 have := (mvs_all h).2 i hi
 unfold mvE at this
 simp only [q] at this
 grind
def plnE (n : List Ned) (r : List Roa) (l : List Mov) : Int := if firstE [ndsE n, rdsE r, mvsE l] ≠ 0 then firstE [ndsE n, rdsE r, mvsE l] else planE n r l
theorem firstE_tri {a b c : Int} (h : firstE [a, b, c] = 0) : a = 0 ∧ b = 0 ∧ c = 0 := by
 by_cases ha : a = 0
 · rw [firstE, if_pos ha] at h
   exact ⟨ha, firstE_two h⟩
 · rw [firstE, if_neg ha] at h; exact absurd h ha
set_option maxHeartbeats 8000000 in
theorem p18 (n : List Ned) (r : List Roa) (l : List Mov) (hn : ndOk n) (hr : rdOk r) (hl : mvOk l) : FSpec Tryz.prog 18 [.d (neds n), .d (roas r), .d (movs l)] [] (fun y q => y = .d (.int .i64 (plnE n r l)) ∧ q = []) := by
 obtain ⟨E0, hE0⟩ : ∃ e, firstE [ndsE n, rdsE r, mvsE l] = e := ⟨_, rfl⟩
 have h53 := s105 [ndsE n, rdsE r, mvsE l] (by simp)
 rw [hE0] at h53
 have h12 := s163 n hn
 have h13 := s164 r hr
 have h54 := z116 l hl
 unfold plnE
 rw [hE0]
 by_cases h0 : E0 = 0
 · subst h0
   obtain ⟨z1, z2, z3⟩ := firstE_tri hE0
   have hnl := (nds_all z1).1
   have hml := (mvs_all z3).1
   rw [if_neg (by omega)]
   refine spec_of hT (C := []) Tryz.func18 rfl Tryz.call18 rfl rfl rfl ?_
   conv => whnf
   repeat' (first | (refine CallX.exact (h12) rfl rfl ?_; rotate_right; conv => whnf) | (refine CallX.exact (h13) rfl rfl ?_; rotate_right; conv => whnf) | (refine CallX.exact (h54) rfl rfl ?_; rotate_right; conv => whnf) | (refine CallX.pure h53 ⟨SV.le_lit (by rfl) (by rfl), trivial⟩ rfl ?_; conv => whnf) | (refine CallX.of (z117 r z2) [(3, 29)] rfl ⟨lr, trivial⟩ trivial rfl rfl ?_; rintro x rout ⟨rfl, rfl⟩; refine ⟨rfl, ?_⟩; conv => whnf) | (refine br_intro ?_ ?_ <;> intro hb <;> (try simp only [brs] at hb) <;> conv => whnf) | omega | (refine And.intro ?_ ?_; ((try dsimp only); first | omega | (refine szA rfl ?_; omega) | (refine szB rfl ?_; omega) | (unfold inI64; omega) | exact rfl | (simp only [lns] at *; omega) | decide | (unfold inI64; decide)); conv => whnf) | decide | assumption)
   refine LoopX.rule hT (C := []) (ι := Nat) (fun i => i ≤ l.length ∧ ∀ j, j < i → onPlan n r l j = 0) (fun i => mkSt [(0, .d (neds n)), (8, .mp 29), (9, .mp 30), (31, .d (movs l)), (32, .d (.int .i64 l.length)), (33, .d (.int .i64 i))] [(29, netG r), (30, mvdR l i)]) (fun i => l.length - i) 0 ⟨Nat.zero_le _, fun j hj => absurd hj (Nat.not_lt_zero _)⟩ ?_ ?_
   · exact Entails.mk' [(29, 29), (30, 30)] rfl rfl ⟨lr, lr, lr, lr, lr, lr, trivial⟩ ⟨rr, Res.le_map (fun _ _ => ⟨rfl, rfl⟩), trivial⟩
   rintro i ⟨hi, ha⟩
   have hi : i ≤ l.length := hi
   have ha : ∀ j, j < i → onPlan n r l j = 0 := ha
   have e1 : (i : Int).toNat = i := Int.toNat_natCast i
   rcases Nat.lt_or_ge i l.length with hil | hil
   · have h56a := p56 n (l.getD (i : Int).toNat mv0).a (by omega)
     have h56b := p56 n (l.getD (i : Int).toNat mv0).b (by omega)
     have hab := mov_ab z3 hil
     have hkab : keyEq [.str (l.getD (i : Int).toNat mv0).b] [.str (l.getD (i : Int).toNat mv0).a] = false := by
      rw [keyEq_str, e1]; exact decide_eq_false (fun q => hab q.symm)
     have hbd := mov_bd z3 hil
     rw [← e1] at hbd
     have hv1 := mvdN_bd z3 (l.getD (i : Int).toNat mv0).a hi
     have hv2 := mvdN_bd z3 (l.getD (i : Int).toNat mv0).b hi
     have hbad : ∀ e : Int, e ≠ 0 → onPlan n r l i = e → planE n r l = e := fun e q1 q2 => by
      unfold planE
      have := firstAt_eq hil ha q1 q2
      rw [this, if_pos q1]
     conv => whnf
     repeat' (first | (refine And.intro (show inI64 (mvdN l (l.getD (i : Int).toNat mv0).a i + (l.getD (i : Int).toNat mv0).many) by unfold inI64; omega) ?_; conv => whnf) | (refine And.intro (show inI64 (mvdN l (l.getD (i : Int).toNat mv0).b i - (l.getD (i : Int).toNat mv0).many) by unfold inI64; omega) ?_; conv => whnf) | (refine CallX.exact (h56a) rfl rfl ?_; rotate_right; conv => whnf) | (refine CallX.exact (h56b) rfl rfl ?_; rotate_right; conv => whnf) | (refine And.intro (rfl : zrow _ = some [.str [], .str [], .int .i64 0, .int .i64 0]) ?_; conv => whnf) | (refine And.intro (rfl : zrow _ = some [.int .i64 0]) ?_; conv => whnf) | (refine br_intro ?_ ?_ <;> intro hb <;> (try simp only [brs] at hb) <;> conv => whnf) | omega | (refine And.intro ?_ ?_; ((try dsimp only); first | omega | (refine szA rfl ?_; omega) | (refine szB rfl ?_; omega) | (unfold inI64; omega) | exact rfl | (simp only [lns] at *; omega) | decide | (unfold inI64; decide)); conv => whnf) | decide | assumption)
     all_goals try (exfalso; omega)
     · refine .ret _ ?_
       conv => whnf
       refine ⟨[], ⟨?_, rfl⟩, trivial⟩
       conv => lhs; whnf
       rw [hbad 16 (by decide) (by unfold onPlan; simp only; rw [if_pos (.inl hb)])]
     · refine .ret _ ?_
       conv => whnf
       refine ⟨[], ⟨?_, rfl⟩, trivial⟩
       conv => lhs; whnf
       rw [hbad 16 (by decide) (by unfold onPlan; simp only; rw [if_pos (.inr hb)])]
     · refine .ret _ ?_
       conv => whnf
       refine ⟨[], ⟨?_, rfl⟩, trivial⟩
       conv => lhs; whnf
       have hb2 : (roadO r (l.getD i mv0).a (l.getD i mv0).b).isSome = false := hb
       rw [hbad 8 (by decide) (by unfold onPlan; simp only; rw [if_neg (by omega), if_pos hb2])]
     · have hb2 : (roadO r (l.getD i mv0).a (l.getD i mv0).b).isSome = true := hb
       rename_i q1 q2
       simp only [hkab, cond_false]
       conv => whnf
       repeat' (first | (refine And.intro (show inI64 (mvdN l (l.getD (i : Int).toNat mv0).b i - (l.getD (i : Int).toNat mv0).many) by unfold inI64; omega) ?_; conv => whnf) | (refine And.intro (rfl : zrow _ = some [.int .i64 0]) ?_; conv => whnf) | (refine br_intro ?_ ?_ <;> intro hb <;> (try simp only [brs] at hb) <;> conv => whnf) | omega | (refine And.intro ?_ ?_; ((try dsimp only); first | omega | (refine szA rfl ?_; omega) | (refine szB rfl ?_; omega) | (unfold inI64; omega) | exact rfl | (simp only [lns] at *; omega) | decide | (unfold inI64; decide)); conv => whnf) | decide | assumption)
       refine ⟨i + 1, ⟨hil, first_step ha ?_⟩, by show l.length - (i + 1) < l.length - i; omega, Entails.mk' [(29, 29), (30, 30)] rfl rfl ⟨lr, lr, lr, lr, lr, lr, trivial⟩ ⟨rr, mvdR_step hab, trivial⟩⟩
       unfold onPlan
       simp only
       rw [if_neg (by omega), if_neg (by rw [hb2]; decide)]
   · have hil : i = l.length := by omega
     subst hil
     have hz : firstAt (onPlan n r l) l.length = 0 := firstAt_zero ha
     have hpl : planE n r l = firstAt (sumE n l) n.length := by unfold planE; rw [hz, if_neg (fun q => q rfl)]
     rw [hpl]
     conv => whnf
     repeat' (first | (refine br_intro ?_ ?_ <;> intro hb <;> (try simp only [brs] at hb) <;> conv => whnf) | omega | (refine And.intro ?_ ?_; ((try dsimp only); first | omega | (refine szA rfl ?_; omega) | (refine szB rfl ?_; omega) | (unfold inI64; omega) | exact rfl | (simp only [lns] at *; omega) | decide | (unfold inI64; decide)); conv => whnf) | decide | assumption)
     all_goals try (exfalso; omega)
     refine LoopX.rule hT (C := []) (ι := Nat) (fun i => i ≤ n.length ∧ ∀ j, j < i → sumE n l j = 0) (fun i => mkSt [(9, .mp 30), (76, .d (neds n)), (77, .d (.int .i64 n.length)), (78, .d (.int .i64 i))] [(30, mvdR l l.length)]) (fun i => n.length - i) 0 ⟨Nat.zero_le _, fun j hj => absurd hj (Nat.not_lt_zero _)⟩ ?_ ?_
     · exact Entails.mk' [(30, 30)] rfl rfl ⟨lr, lr, lr, lr, trivial⟩ ⟨rr, trivial⟩
     rintro i ⟨hi, ha⟩
     have hi : i ≤ n.length := hi
     have ha : ∀ j, j < i → sumE n l j = 0 := ha
     have e1 : (i : Int).toNat = i := Int.toNat_natCast i
     rcases Nat.lt_or_ge i n.length with hin | hin
     · have hbad : ∀ e : Int, e ≠ 0 → sumE n l i = e → firstAt (sumE n l) n.length = e := fun e q1 q2 => firstAt_eq hin ha q1 q2
       have hv := mvdN_bd z3 (n.getD i nd0).st (Nat.le_refl l.length)
       conv => whnf
       repeat' (first | (refine And.intro (rfl : zrow _ = some [.int .i64 0]) ?_; conv => whnf) | (refine br_intro ?_ ?_ <;> intro hb <;> (try simp only [brs] at hb) <;> conv => whnf) | omega | (refine And.intro ?_ ?_; ((try dsimp only); first | omega | (refine szA rfl ?_; omega) | (refine szB rfl ?_; omega) | (unfold inI64; omega) | exact rfl | (simp only [lns] at *; omega) | decide | (unfold inI64; decide)); conv => whnf) | decide | assumption)
       all_goals try (exfalso; omega)
       · rename_i q1
         have hb2 : (n.getD i nd0).many < mvdN l (n.getD i nd0).st l.length := hb
         refine .ret _ ?_
         conv => whnf
         refine ⟨[], ⟨?_, rfl⟩, trivial⟩
         conv => lhs; whnf
         rw [hbad 15 (by decide) (by unfold sumE; simp only; rw [if_pos (.inl ⟨q1, hb2⟩)])]
       · rename_i q1 q2
         have q2 : mvdN l (n.getD i nd0).st l.length ≤ (n.getD i nd0).many := q2
         exact ⟨i + 1, ⟨hin, first_step ha (by unfold sumE; simp only; rw [if_neg (by omega)])⟩, by show n.length - (i + 1) < n.length - i; omega, Entails.mk' [(30, 30)] rfl rfl ⟨lr, lr, lr, lr, trivial⟩ ⟨rr, trivial⟩⟩
       · rename_i q1 q2
         have hb2 : ¬ mvdN l (n.getD i nd0).st l.length = (n.getD i nd0).many := hb
         refine .ret _ ?_
         conv => whnf
         refine ⟨[], ⟨?_, rfl⟩, trivial⟩
         conv => lhs; whnf
         rw [hbad 15 (by decide) (by unfold sumE; simp only; rw [if_pos (.inr ⟨q2, hb2⟩)])]
       · have hb2 : mvdN l (n.getD i nd0).st l.length = (n.getD i nd0).many := hb
         exact ⟨i + 1, ⟨hin, first_step ha (by unfold sumE; simp only; rw [if_neg (by omega)])⟩, by show n.length - (i + 1) < n.length - i; omega, Entails.mk' [(30, 30)] rfl rfl ⟨lr, lr, lr, lr, trivial⟩ ⟨rr, trivial⟩⟩
       · exact ⟨i + 1, ⟨hin, first_step ha (by unfold sumE; simp only; rw [if_neg (by omega)])⟩, by show n.length - (i + 1) < n.length - i; omega, Entails.mk' [(30, 30)] rfl rfl ⟨lr, lr, lr, lr, trivial⟩ ⟨rr, trivial⟩⟩
     · have hin : i = n.length := by omega
       subst hin
       conv => whnf
       repeat' (first | (refine br_intro ?_ ?_ <;> intro hb <;> (try simp only [brs] at hb) <;> conv => whnf) | omega | (refine And.intro ?_ ?_; ((try dsimp only); first | omega | (refine szA rfl ?_; omega) | (refine szB rfl ?_; omega) | (unfold inI64; omega) | exact rfl | (simp only [lns] at *; omega) | decide | (unfold inI64; decide)); conv => whnf) | decide | assumption)
       all_goals try (exfalso; omega)
       refine .ret _ ?_
       conv => whnf
       refine ⟨[], ⟨?_, rfl⟩, trivial⟩
       conv => lhs; whnf
       rw [firstAt_zero ha]
 · rw [if_pos h0]
   refine spec_of hT (C := []) Tryz.func18 rfl Tryz.call18 rfl rfl rfl ?_
   conv => whnf
   repeat' (first | (refine CallX.exact (h12) rfl rfl ?_; rotate_right; conv => whnf) | (refine CallX.exact (h13) rfl rfl ?_; rotate_right; conv => whnf) | (refine CallX.exact (h54) rfl rfl ?_; rotate_right; conv => whnf) | (refine CallX.pure h53 ⟨SV.le_lit (by rfl) (by rfl), trivial⟩ rfl ?_; conv => whnf) | (refine br_intro ?_ ?_ <;> intro hb <;> (try simp only [brs] at hb) <;> conv => whnf) | omega | (refine And.intro ?_ ?_; ((try dsimp only); first | omega | (refine szA rfl ?_; omega) | (refine szB rfl ?_; omega) | (unfold inI64; omega) | exact rfl | (simp only [lns] at *; omega) | decide | (unfold inI64; decide)); conv => whnf) | decide | assumption)
   all_goals try (exfalso; omega)
   refine .ret _ ?_
   conv => whnf
   refine ⟨[], ⟨?_, rfl⟩, trivial⟩
   conv => lhs; whnf
def oVPiC16_17 : List (Nat × List Nat) := [(0, []), (1, [0]), (2, [0]), (3, [0, 1, 2]), (4, [0, 1, 2]), (5, [0, 1, 2, 3, 4]), (6, [0, 1, 2, 3, 4]), (7, [0, 1, 2]), (8, [0, 1, 2]), (9, [0]), (10, []), (11, [])]
def oVPiC16_18 : List (Nat × List Nat) := [(0, []), (1, [0]), (2, [0]), (3, [0, 1, 2]), (4, [0, 1, 2]), (5, [0, 1, 2, 3, 4]), (6, [0, 1, 2, 3, 4]), (7, [0, 1, 2]), (8, [0, 1, 2]), (9, [0]), (10, []), (11, [])]
def oVPiC43_6 : List (Nat × List Nat) := [(0, []), (1, [0]), (2, [0]), (3, [0, 1, 2]), (4, [0, 1, 2, 3]), (5, [0, 1, 2, 3]), (6, [0, 1, 2, 3, 4, 5]), (7, [0, 1, 2, 3, 4, 5]), (8, [0, 1, 2, 3]), (9, [0, 1, 2]), (10, [0, 1, 2]), (11, [0]), (12, []), (13, [])]
theorem mvsE_ok {l : List Mov} (h : mvsE l = 0) : mvP l := ⟨(mvs_all h).1, fun m hm => by
 obtain ⟨i, hi, rfl⟩ := mem_getD (d := mv0) hm
 have := mov_bd h hi
 omega⟩
set_option maxHeartbeats 8000000 in
theorem p16 (n : List Ned) (r : List Roa) (l : List Mov) (z1 : ndsE n = 0) (z2 : rdsE r = 0) (z3 : mvsE l = 0) : FSpec Tryz.prog 16 [.d (neds n), .d (roas r), .d (movs l)] [] (fun y q => y = .d (.int .i64 (planE n r l)) ∧ q = []) := by
 have hnl := (nds_all z1).1
 have hml := (mvs_all z3).1
 have hrl := (rds_all z2).1
 rw [planE_eq z1]
 refine spec_of hT (C := []) Tryz.func16 rfl Tryz.call16 rfl rfl rfl ?_
 conv => whnf
 repeat' (first | (refine br_intro ?_ ?_ <;> intro hb <;> (try simp only [brs] at hb) <;> conv => whnf) | (refine RegX.rule (id := 17) hT rfl [] oVPiC16_17 (by decide +kernel) ?_; conv => whnf) | (refine RegX.rule (id := 18) hT rfl [] oVPiC16_18 (by decide +kernel) ?_; conv => whnf) | omega | (refine And.intro ?_ ?_; ((try dsimp only); first | omega | (refine szA rfl ?_; omega) | (refine szB rfl ?_; omega) | (unfold inI64; omega) | exact rfl | (simp only [lns] at *; omega) | decide | (unfold inI64; decide)); conv => whnf) | decide | assumption)
 refine LoopX.rule hT (C := []) (ι := Nat) (fun i => i ≤ l.length ∧ ∀ j, j < i → onPlan n r l j = 0) (fun i => mkSt [(0, .d (neds n)), (1, .d (roas r)), (2, .d (movs l)), (17, .d (movs l)), (18, .d (.int .i64 l.length)), (19, .d (.int .i64 i))] []) (fun i => l.length - i) 0 ⟨Nat.zero_le _, fun j hj => absurd hj (Nat.not_lt_zero _)⟩ ?_ ?_
 · exact Entails.mk' [] rfl rfl ⟨lr, lr, lr, lr, lr, lr, trivial⟩ trivial
 rintro i ⟨hi, ha⟩
 have hi : i ≤ l.length := hi
 have ha : ∀ j, j < i → onPlan n r l j = 0 := ha
 have e1 : (i : Int).toNat = i := Int.toNat_natCast i
 rcases Nat.lt_or_ge i l.length with hil | hil
 · have h50a := p50 n (l.getD (i : Int).toNat mv0).a (by omega)
   have h50b := p50 n (l.getD (i : Int).toNat mv0).b (by omega)
   have h113 := z113 r (by omega) (l.getD (i : Int).toNat mv0).a (l.getD (i : Int).toNat mv0).b
   have hbad : ∀ e : Int, e ≠ 0 → onPlan n r l i = e → (if firstAt (onPlan n r l) l.length ≠ 0 then firstAt (onPlan n r l) l.length else firstAt (sumE2 n l) n.length) = e := fun e q1 q2 => by
    have := firstAt_eq hil ha q1 q2
    rw [this, if_pos q1]
   conv => whnf
   repeat' (first | (refine CallX.exact (h50a) rfl rfl ?_; rotate_right; conv => whnf) | (refine CallX.exact (h50b) rfl rfl ?_; rotate_right; conv => whnf) | (refine CallX.exact (h113) rfl rfl ?_; rotate_right; conv => whnf) | (refine br_intro ?_ ?_ <;> intro hb <;> (try simp only [brs] at hb) <;> conv => whnf) | (refine RegX.rule (id := 17) hT rfl [] oVPiC16_17 (by decide +kernel) ?_; conv => whnf) | (refine RegX.rule (id := 18) hT rfl [] oVPiC16_18 (by decide +kernel) ?_; conv => whnf) | omega | (refine And.intro ?_ ?_; ((try dsimp only); first | omega | (refine szA rfl ?_; omega) | (refine szB rfl ?_; omega) | (unfold inI64; omega) | exact rfl | (simp only [lns] at *; omega) | decide | (unfold inI64; decide)); conv => whnf) | decide | assumption)
   all_goals try (exfalso; omega)
   · refine .ret _ ?_
     conv => whnf
     refine ⟨[], ⟨?_, rfl⟩, trivial⟩
     conv => lhs; whnf
     rw [hbad 16 (by decide) (by unfold onPlan; simp only; rw [if_pos (.inl hb)])]
   · refine .ret _ ?_
     conv => whnf
     refine ⟨[], ⟨?_, rfl⟩, trivial⟩
     conv => lhs; whnf
     rw [hbad 16 (by decide) (by unfold onPlan; simp only; rw [if_pos (.inr hb)])]
   · refine .ret _ ?_
     conv => whnf
     refine ⟨[], ⟨?_, rfl⟩, trivial⟩
     conv => lhs; whnf
     rw [hbad 8 (by decide) (by unfold onPlan; simp only; rw [if_neg (by omega), if_pos hb])]
   · rename_i q1 q2
     refine ⟨i + 1, ⟨hil, first_step ha ?_⟩, by show l.length - (i + 1) < l.length - i; omega, Entails.mk' [] rfl rfl ⟨lr, lr, lr, lr, lr, lr, trivial⟩ trivial⟩
     unfold onPlan
     simp only
     rw [if_neg (by omega), if_neg (by rw [hb]; decide)]
 · have hil : i = l.length := by omega
   subst hil
   have hz : firstAt (onPlan n r l) l.length = 0 := firstAt_zero ha
   have hpl : (if firstAt (onPlan n r l) l.length ≠ 0 then firstAt (onPlan n r l) l.length else firstAt (sumE2 n l) n.length) = firstAt (sumE2 n l) n.length := by rw [hz, if_neg (fun q => q rfl)]
   rw [hpl]
   conv => whnf
   repeat' (first | (refine br_intro ?_ ?_ <;> intro hb <;> (try simp only [brs] at hb) <;> conv => whnf) | (refine RegX.rule (id := 17) hT rfl [] oVPiC16_17 (by decide +kernel) ?_; conv => whnf) | (refine RegX.rule (id := 18) hT rfl [] oVPiC16_18 (by decide +kernel) ?_; conv => whnf) | omega | (refine And.intro ?_ ?_; ((try dsimp only); first | omega | (refine szA rfl ?_; omega) | (refine szB rfl ?_; omega) | (unfold inI64; omega) | exact rfl | (simp only [lns] at *; omega) | decide | (unfold inI64; decide)); conv => whnf) | decide | assumption)
   all_goals try (exfalso; omega)
   refine LoopX.rule hT (C := []) (ι := Nat) (fun i => i ≤ n.length ∧ ∀ j, j < i → sumE2 n l j = 0) (fun i => mkSt [(2, .d (movs l)), (47, .d (neds n)), (48, .d (.int .i64 n.length)), (49, .d (.int .i64 i))] []) (fun i => n.length - i) 0 ⟨Nat.zero_le _, fun j hj => absurd hj (Nat.not_lt_zero _)⟩ ?_ ?_
   · exact Entails.mk' [] rfl rfl ⟨lr, lr, lr, lr, trivial⟩ trivial
   rintro i ⟨hi, ha⟩
   have hi : i ≤ n.length := hi
   have ha : ∀ j, j < i → sumE2 n l j = 0 := ha
   have e1 : (i : Int).toNat = i := Int.toNat_natCast i
   rcases Nat.lt_or_ge i n.length with hin | hin
   · have hmi := ned_many z1 i
     unfold manyP at hmi
     rw [← e1] at hmi
     have hbad : ∀ e : Int, e ≠ 0 → sumE2 n l i = e → firstAt (sumE2 n l) n.length = e := fun e q1 q2 => firstAt_eq hin ha q1 q2
     conv => whnf
     repeat' (first | (refine br_intro ?_ ?_ <;> intro hb <;> (try simp only [brs] at hb) <;> conv => whnf) | (refine RegX.rule (id := 17) hT rfl [] oVPiC16_17 (by decide +kernel) ?_; conv => whnf) | (refine RegX.rule (id := 18) hT rfl [] oVPiC16_18 (by decide +kernel) ?_; conv => whnf) | omega | (refine And.intro ?_ ?_; ((try dsimp only); first | omega | (refine szA rfl ?_; omega) | (refine szB rfl ?_; omega) | (unfold inI64; omega) | exact rfl | (simp only [lns] at *; omega) | decide | (unfold inI64; decide)); conv => whnf) | decide | assumption)
     all_goals try (exfalso; omega)
     refine LoopX.rule hT (C := []) (ι := Nat) (fun k => k ≤ l.length) (fun k => mkSt [(2, .d (movs l)), (12, .ptr 12 0), (13, .d (.int .i64 (awayN l (n.getD i nd0).st k))), (14, .d (.int .i64 (hereN l (n.getD i nd0).st k))), (47, .d (neds n)), (48, .d (.int .i64 n.length)), (49, .d (.int .i64 i)), (53, .d (movs l)), (54, .d (.int .i64 l.length)), (55, .d (.int .i64 k))] [(12, .cells 58 ((ndF (n.getD (i : Int).toNat nd0)).map .d))]) (fun k => l.length - k) 0 (Nat.zero_le _) ?_ ?_
     · exact Entails.mk' [(12, 12)] rfl rfl ⟨lr, lr, lr, lr, lr, lr, lr, lr, lr, lr, trivial⟩ ⟨rr, trivial⟩
     rintro k hk
     have hk : k ≤ l.length := hk
     have e2 : (k : Int).toNat = k := Int.toNat_natCast k
     have hw1 := awayN_bd z3 (n.getD i nd0).st k hk
     have hw2 := hereN_bd z3 (n.getD i nd0).st k hk
     rcases Nat.lt_or_ge k l.length with hkl | hkl
     · have hbd := mov_bd z3 hkl
       rw [← e2] at hbd
       have f1 := s112c (decide ((l.getD (k : Int).toNat mv0).a = (n.getD (i : Int).toNat nd0).st))
       have f2 := s112c (decide ((l.getD (k : Int).toNat mv0).b = (n.getD (i : Int).toNat nd0).st))
       conv => whnf
       repeat' (first | (refine CallX.of (s112c _) [] rfl ⟨lr, trivial⟩ trivial rfl rfl ?_; rintro x rout ⟨hx, rfl⟩; (rcases hx with ⟨hq, rfl⟩ | ⟨hq, rfl⟩) <;> (refine ⟨rfl, ?_⟩ <;> (conv => whnf)); conv => whnf) | (refine br_intro ?_ ?_ <;> intro hb <;> (try simp only [brs] at hb) <;> conv => whnf) | (refine RegX.rule (id := 17) hT rfl [] oVPiC16_17 (by decide +kernel) ?_; conv => whnf) | (refine RegX.rule (id := 18) hT rfl [] oVPiC16_18 (by decide +kernel) ?_; conv => whnf) | omega | (refine And.intro ?_ ?_; ((try dsimp only); first | omega | (refine szA rfl ?_; omega) | (refine szB rfl ?_; omega) | (unfold inI64; omega) | exact rfl | (simp only [lns] at *; omega) | decide | (unfold inI64; decide)); conv => whnf) | decide | assumption)
       all_goals try (exfalso; omega)
       all_goals
        rename_i hq1
        refine ⟨k + 1, hkl, by show l.length - (k + 1) < l.length - k; omega, Entails.mk' [(12, 12)] rfl rfl ⟨lr, lr, SV.le_int ?_, SV.le_int ?_, lr, lr, lr, lr, lr, lr, trivial⟩ ⟨rr, trivial⟩⟩
       all_goals first
        | (rw [e2, awayN]
           first
            | (rw [if_pos (by simpa only [beq_iff_eq, e1, e2] using hq1)]; omega)
            | (rw [if_neg (by simpa only [beq_eq_false_iff_ne, ne_eq, e1, e2] using hq1)]; omega))
        | (rw [e2, hereN]
           first
            | (rw [if_pos (by simpa only [beq_iff_eq, e1, e2] using hq)]; omega)
            | (rw [if_neg (by simpa only [beq_eq_false_iff_ne, ne_eq, e1, e2] using hq)]; omega))
     · have hkl : k = l.length := by omega
       subst hkl
       conv => whnf
       repeat' (first | (refine br_intro ?_ ?_ <;> intro hb <;> (try simp only [brs] at hb) <;> conv => whnf) | (refine RegX.rule (id := 17) hT rfl [] oVPiC16_17 (by decide +kernel) ?_; conv => whnf) | (refine RegX.rule (id := 18) hT rfl [] oVPiC16_18 (by decide +kernel) ?_; conv => whnf) | omega | (refine And.intro ?_ ?_; ((try dsimp only); first | omega | (refine szA rfl ?_; omega) | (refine szB rfl ?_; omega) | (unfold inI64; omega) | exact rfl | (simp only [lns] at *; omega) | decide | (unfold inI64; decide)); conv => whnf) | decide | assumption)
       all_goals try (exfalso; omega)
       · rename_i q1
         refine .ret _ ?_
         conv => whnf
         refine ⟨[], ⟨?_, rfl⟩, trivial⟩
         conv => lhs; whnf
         rw [hbad 15 (by decide) (by unfold sumE2; simp only; rw [if_pos (.inl ⟨q1, hb⟩)])]
       · exact ⟨i + 1, ⟨hin, first_step ha (by unfold sumE2; simp only; rw [if_neg (by omega)])⟩, by show n.length - (i + 1) < n.length - i; omega, Entails.mk' [] rfl rfl ⟨lr, lr, lr, lr, trivial⟩ trivial⟩
       · refine .ret _ ?_
         conv => whnf
         refine ⟨[], ⟨?_, rfl⟩, trivial⟩
         conv => lhs; whnf
         rw [hbad 15 (by decide) (by unfold sumE2; simp only; rw [if_pos (.inr ⟨by omega, by omega⟩)])]
       · exact ⟨i + 1, ⟨hin, first_step ha (by unfold sumE2; simp only; rw [if_neg (by omega)])⟩, by show n.length - (i + 1) < n.length - i; omega, Entails.mk' [] rfl rfl ⟨lr, lr, lr, lr, trivial⟩ trivial⟩
       · exact ⟨i + 1, ⟨hin, first_step ha (by unfold sumE2; simp only; rw [if_neg (by omega)])⟩, by show n.length - (i + 1) < n.length - i; omega, Entails.mk' [] rfl rfl ⟨lr, lr, lr, lr, trivial⟩ trivial⟩
   · have hin : i = n.length := by omega
     subst hin
     conv => whnf
     repeat' (first | (refine br_intro ?_ ?_ <;> intro hb <;> (try simp only [brs] at hb) <;> conv => whnf) | (refine RegX.rule (id := 17) hT rfl [] oVPiC16_17 (by decide +kernel) ?_; conv => whnf) | (refine RegX.rule (id := 18) hT rfl [] oVPiC16_18 (by decide +kernel) ?_; conv => whnf) | omega | (refine And.intro ?_ ?_; ((try dsimp only); first | omega | (refine szA rfl ?_; omega) | (refine szB rfl ?_; omega) | (unfold inI64; omega) | exact rfl | (simp only [lns] at *; omega) | decide | (unfold inI64; decide)); conv => whnf) | decide | assumption)
     all_goals try (exfalso; omega)
     refine .ret _ ?_
     conv => whnf
     refine ⟨[], ⟨?_, rfl⟩, trivial⟩
     conv => lhs; whnf
     rw [firstAt_zero ha]
set_option maxHeartbeats 4000000 in
theorem p43 (r : List Roa) (l : List Mov) (hr : rdsE r = 0) (hl : mvP l) : FSpec Tryz.prog 43 [.d (roas r), .d (movs l)] [] (fun y q => y = .d (.int .i64 (costN r l l.length)) ∧ q = []) := by
 have hrl := (rds_all hr).1
 have hll := hl.1
 refine spec_of hT (C := []) Tryz.func43 rfl Tryz.call43 rfl rfl rfl ?_
 conv => whnf
 repeat' (first | (refine CallX.of (z117 r hr) [(3, 10)] rfl ⟨lr, trivial⟩ trivial rfl rfl ?_; rintro x rout ⟨rfl, rfl⟩; refine ⟨rfl, ?_⟩; conv => whnf) | (refine br_intro ?_ ?_ <;> intro hb <;> (try simp only [brs] at hb) <;> conv => whnf) | (refine RegX.rule (id := 6) hT rfl [] oVPiC43_6 (by decide +kernel) ?_; conv => whnf) | omega | (refine And.intro ?_ ?_; ((try dsimp only); first | omega | (refine szA rfl ?_; omega) | (refine szB rfl ?_; omega) | (unfold inI64; omega) | exact rfl | (simp only [lns] at *; omega) | decide | (unfold inI64; decide)); conv => whnf) | decide | assumption)
 refine LoopX.rule hT (C := []) (ι := Nat) (fun i => i ≤ l.length) (fun i => mkSt [(5, .mp 10), (6, .d (.int .i64 (costN r l i))), (11, .d (movs l)), (12, .d (.int .i64 l.length)), (13, .d (.int .i64 i))] [(10, netG r)]) (fun i => l.length - i) 0 (Nat.zero_le _) ?_ ?_
 · exact Entails.mk' [(10, 10)] rfl rfl ⟨lr, lr, lr, lr, lr, trivial⟩ ⟨rr, trivial⟩
 rintro i hi
 have hi : i ≤ l.length := hi
 have e1 : (i : Int).toNat = i := Int.toNat_natCast i
 have hb1 := costN_b2 hr hl i hi
 rcases Nat.lt_or_ge i l.length with hil | hil
 · have h2 := hl.2 _ (getD_mem (l := l) (x := mv0) (i := (i : Int).toNat) (by omega))
   have h3 := roadC_bd hr (l.getD (i : Int).toNat mv0).a (l.getD (i : Int).toNat mv0).b
   have h4 := mul_nb h2 h3
   conv => whnf
   repeat' (first | (refine And.intro (rfl : zrow _ = some [.str [], .str [], .int .i64 0, .int .i64 0]) ?_; conv => whnf) | (refine And.intro (show inI64 ((l.getD (i : Int).toNat mv0).many * ((roadO r (l.getD (i : Int).toNat mv0).a (l.getD (i : Int).toNat mv0).b).getD rd0).car) by unfold inI64; omega) ?_; conv => whnf) | (refine And.intro (show inI64 (costN r l i + (l.getD (i : Int).toNat mv0).many * ((roadO r (l.getD (i : Int).toNat mv0).a (l.getD (i : Int).toNat mv0).b).getD rd0).car) by unfold inI64; omega) ?_; conv => whnf) | (refine br_intro ?_ ?_ <;> intro hb <;> (try simp only [brs] at hb) <;> conv => whnf) | (refine RegX.rule (id := 6) hT rfl [] oVPiC43_6 (by decide +kernel) ?_; conv => whnf) | omega | (refine And.intro ?_ ?_; ((try dsimp only); first | omega | (refine szA rfl ?_; omega) | (refine szB rfl ?_; omega) | (unfold inI64; omega) | exact rfl | (simp only [lns] at *; omega) | decide | (unfold inI64; decide)); conv => whnf) | decide | assumption)
   all_goals try (exfalso; omega)
   exact ⟨i + 1, hil, by show l.length - (i + 1) < l.length - i; omega, Entails.mk' [(10, 10)] rfl rfl ⟨lr, lr, lr, lr, lr, trivial⟩ ⟨rr, trivial⟩⟩
 · have hil : i = l.length := by omega
   subst hil
   conv => whnf
   repeat' (first | (refine br_intro ?_ ?_ <;> intro hb <;> (try simp only [brs] at hb) <;> conv => whnf) | (refine RegX.rule (id := 6) hT rfl [] oVPiC43_6 (by decide +kernel) ?_; conv => whnf) | omega | (refine And.intro ?_ ?_; ((try dsimp only); first | omega | (refine szA rfl ?_; omega) | (refine szB rfl ?_; omega) | (unfold inI64; omega) | exact rfl | (simp only [lns] at *; omega) | decide | (unfold inI64; decide)); conv => whnf) | decide | assumption)
   all_goals try (exfalso; omega)
   refine .ret _ ?_
   conv => whnf
   refine ⟨[], ⟨?_, rfl⟩, trivial⟩
   conv => lhs; whnf
theorem plnE_zero {n : List Ned} {r : List Roa} {l : List Mov} (h : plnE n r l = 0) : (ndsE n = 0 ∧ rdsE r = 0 ∧ mvsE l = 0) ∧ planE n r l = 0 := by
 unfold plnE at h
 split at h
 · rename_i q; exact absurd h q
 · rename_i q; exact ⟨firstE_tri (Classical.not_not.1 q), h⟩
def bndE (n : List Ned) (r : List Roa) (p : List Pri) : Int := firstE [firstE [ndsE n, rdsE r], priE n p]
def prvE (n : List Ned) (r : List Roa) (l : List Mov) (p : List Pri) : Int := firstE [plnE n r l, priE n p]
theorem p23 (n : List Ned) (r : List Roa) (p : List Pri) (hn : ndOk n) (hr : rdOk r) (hp : p.length ≤ 2^40) : FSpec Tryz.prog 23 [.d (neds n), .d (roas r), .d (pris p)] [] (fun y q => y = .tup [.d (.int .i64 (if bndE n r p = 0 then bouN n r p else 0)), .d (.int .i64 (bndE n r p))] ∧ q = []) := by
 obtain ⟨e1, he1⟩ : ∃ e, firstE [ndsE n, rdsE r] = e := ⟨_, rfl⟩
 obtain ⟨e2, he2⟩ : ∃ e, priE n p = e := ⟨_, rfl⟩
 obtain ⟨e, he⟩ : ∃ e, firstE [e1, e2] = e := ⟨_, rfl⟩
 have h58 := s113 n r hn hr
 have h62 := p62 n p hn.1 hp
 have h53 := s105 [e1, e2] (by simp)
 rw [he1] at h58
 rw [he2] at h62
 rw [he] at h53
 have hb : bndE n r p = e := by unfold bndE; rw [he1, he2, he]
 rw [hb]
 by_cases h0 : e = 0
 · subst h0
   obtain ⟨z1, z2⟩ := firstE_two he
   obtain ⟨z3, z4⟩ := firstE_two (he1.trans z1)
   have h63 := p63 n r p z3 z4 (he2.trans z2)
   refine spec_of hT (C := []) Tryz.func23 rfl Tryz.call23 rfl rfl rfl ?_
   conv => whnf
   repeat' (first | (refine CallX.exact (h58) rfl rfl ?_; rotate_right; conv => whnf) | (refine CallX.exact (h62) rfl rfl ?_; rotate_right; conv => whnf) | (refine CallX.pure h53 ⟨SV.le_lit (by rfl) (by rfl), trivial⟩ rfl ?_; conv => whnf) | (refine CallX.exact (h63) rfl rfl ?_; rotate_right; conv => whnf) | (refine br_intro ?_ ?_ <;> intro hb <;> (try simp only [brs] at hb) <;> conv => whnf) | omega | (refine And.intro ?_ ?_; ((try dsimp only); first | omega | (refine szA rfl ?_; omega) | (refine szB rfl ?_; omega) | (unfold inI64; omega) | exact rfl | (simp only [lns] at *; omega) | decide | (unfold inI64; decide)); conv => whnf) | decide | assumption)
   refine .weak _ ?_
   conv => whnf
   exact ⟨.tup [.d (.int .i64 (if 0 = (0 : Int) then bouN n r p else 0)), .d (.int .i64 0)], _, SV.le_tup ⟨SV.le_int (if_pos rfl).symm, lr, trivial⟩, ⟨rfl, rfl⟩, trivial⟩
 · refine spec_of hT (C := []) Tryz.func23 rfl Tryz.call23 rfl rfl rfl ?_
   conv => whnf
   repeat' (first | (refine CallX.exact (h58) rfl rfl ?_; rotate_right; conv => whnf) | (refine CallX.exact (h62) rfl rfl ?_; rotate_right; conv => whnf) | (refine CallX.pure h53 ⟨SV.le_lit (by rfl) (by rfl), trivial⟩ rfl ?_; conv => whnf) | (refine br_intro ?_ ?_ <;> intro hb <;> (try simp only [brs] at hb) <;> conv => whnf) | omega | (refine And.intro ?_ ?_; ((try dsimp only); first | omega | (refine szA rfl ?_; omega) | (refine szB rfl ?_; omega) | (unfold inI64; omega) | exact rfl | (simp only [lns] at *; omega) | decide | (unfold inI64; decide)); conv => whnf) | decide | assumption)
   all_goals try (exfalso; omega)
   refine .weak _ ?_
   conv => whnf
   exact ⟨.tup [.d (.int .i64 (if e = (0 : Int) then bouN n r p else 0)), .d (.int .i64 e)], _, SV.le_tup ⟨SV.le_int (if_neg h0).symm, lr, trivial⟩, ⟨rfl, rfl⟩, trivial⟩
theorem p24 (n : List Ned) (r : List Roa) (l : List Mov) (p : List Pri) (hn : ndOk n) (hr : rdOk r) (hl : mvOk l) (hp : p.length ≤ 2^40) : FSpec Tryz.prog 24 [.d (neds n), .d (roas r), .d (movs l), .d (pris p)] []
 (fun y q => y = .tup [.d (.bool (decide (prvE n r l p = 0 ∧ costN r l l.length = bouN n r p))), .d (.int .i64 (prvE n r l p))] ∧ q = []) := by
 obtain ⟨e1, he1⟩ : ∃ e, plnE n r l = e := ⟨_, rfl⟩
 obtain ⟨e2, he2⟩ : ∃ e, priE n p = e := ⟨_, rfl⟩
 obtain ⟨e, he⟩ : ∃ e, firstE [e1, e2] = e := ⟨_, rfl⟩
 have h18 := p18 n r l hn hr hl
 have h62 := p62 n p hn.1 hp
 have h53 := s105 [e1, e2] (by simp)
 rw [he1] at h18
 rw [he2] at h62
 rw [he] at h53
 have hb : prvE n r l p = e := by unfold prvE; rw [he1, he2, he]
 rw [hb]
 by_cases h0 : e = 0
 · subst h0
   obtain ⟨z1, z2⟩ := firstE_two he
   obtain ⟨⟨z3, z4, z5⟩, _⟩ := plnE_zero (he1.trans z1)
   have h63 := p63 n r p z3 z4 (he2.trans z2)
   have h43 := p43 r l z4 (mvsE_ok z5)
   obtain ⟨c, hc⟩ : ∃ c, costN r l l.length = c := ⟨_, rfl⟩
   obtain ⟨b, hbb⟩ : ∃ b, bouN n r p = b := ⟨_, rfl⟩
   rw [hc] at h43
   rw [hbb] at h63
   rw [hc, hbb]
   refine spec_of hT (C := []) Tryz.func24 rfl Tryz.call24 rfl rfl rfl ?_
   conv => whnf
   repeat' (first | (refine CallX.exact (h18) rfl rfl ?_; rotate_right; conv => whnf) | (refine CallX.exact (h62) rfl rfl ?_; rotate_right; conv => whnf) | (refine CallX.pure h53 ⟨SV.le_lit (by rfl) (by rfl), trivial⟩ rfl ?_; conv => whnf) | (refine CallX.exact (h63) rfl rfl ?_; rotate_right; conv => whnf) | (refine CallX.exact (h43) rfl rfl ?_; rotate_right; conv => whnf) | (refine br_intro ?_ ?_ <;> intro hb <;> (try simp only [brs] at hb) <;> conv => whnf) | omega | (refine And.intro ?_ ?_; ((try dsimp only); first | omega | (refine szA rfl ?_; omega) | (refine szB rfl ?_; omega) | (unfold inI64; omega) | exact rfl | (simp only [lns] at *; omega) | decide | (unfold inI64; decide)); conv => whnf) | decide | assumption)
   refine .weak _ ?_
   conv => whnf
   exact ⟨.tup [.d (.bool (decide (0 = (0 : Int) ∧ c = b))), .d (.int .i64 0)], _, SV.le_tup ⟨SV.le_bool (by simp), lr, trivial⟩, ⟨rfl, rfl⟩, trivial⟩
 · refine spec_of hT (C := []) Tryz.func24 rfl Tryz.call24 rfl rfl rfl ?_
   conv => whnf
   repeat' (first | (refine CallX.exact (h18) rfl rfl ?_; rotate_right; conv => whnf) | (refine CallX.exact (h62) rfl rfl ?_; rotate_right; conv => whnf) | (refine CallX.pure h53 ⟨SV.le_lit (by rfl) (by rfl), trivial⟩ rfl ?_; conv => whnf) | (refine br_intro ?_ ?_ <;> intro hb <;> (try simp only [brs] at hb) <;> conv => whnf) | omega | (refine And.intro ?_ ?_; ((try dsimp only); first | omega | (refine szA rfl ?_; omega) | (refine szB rfl ?_; omega) | (unfold inI64; omega) | exact rfl | (simp only [lns] at *; omega) | decide | (unfold inI64; decide)); conv => whnf) | decide | assumption)
   all_goals try (exfalso; omega)
   refine .weak _ ?_
   conv => whnf
   exact ⟨.tup [.d (.bool (decide (e = 0 ∧ costN r l l.length = bouN n r p))), .d (.int .i64 e)], _, SV.le_tup ⟨SV.le_bool (decide_eq_false (fun q => h0 q.1)).symm, lr, trivial⟩, ⟨rfl, rfl⟩, trivial⟩
theorem ndOk_of {l : List Ned} (h : allK ndS 5 l) : ndOk l := ⟨by have := h.1; omega, fun x hx => by have h1 : x.st.length ≤ 8 := h.2 x hx; show x.st.length ≤ 2^40; omega⟩
theorem rdOk_of {l : List Roa} (h : allK rdS 25 l) : rdOk l := ⟨by have := h.1; omega, fun x hx => by have h1 := h.2 x hx; exact ⟨by have := h1.1; omega, by have := h1.2; omega⟩⟩
theorem mvOk_of {l : List Mov} (h : allK mvG 100 l) : mvOk l := ⟨by have := h.1; omega, fun x hx => by have h1 := h.2 x hx; exact ⟨by have := h1.1; omega, by have := h1.2; omega⟩⟩
theorem plnE_ne {n : List Ned} {r : List Roa} {l : List Mov} {e : Int} (h : firstE [ndsE n, rdsE r, mvsE l] = e) (h0 : e ≠ 0) : plnE n r l = e := by
 unfold plnE; rw [h, if_pos h0]
theorem plnE_eq {n : List Ned} {r : List Roa} {l : List Mov} (h : firstE [ndsE n, rdsE r, mvsE l] = 0) : plnE n r l = planE n r l := by
 unfold plnE; rw [h, if_neg (fun q => q rfl)]
def oVPiE20_5 : List (Nat × List Nat) := [(0, []), (1, [0]), (2, [0]), (3, [0, 1, 2]), (4, [0, 1, 2, 3]), (5, [0, 1, 2]), (6, [0]), (7, [0]), (8, []), (9, [])]
abbrev puB (l : List Pri) : Res := seqB 95 2 puF pr00 l
set_option maxHeartbeats 4000000 in
theorem sPrs (n : Nat) (L : Nat → Int) (hL : Rok n L) (a : Int) (h0 : 0 ≤ a) (ha : a ≤ 2^36) (N : List Ned) (hN : N.length ≤ 5) :
 FSpec Tryz.prog 20 [.ptr 1000000 0, .d (neds N)] [(1000000, strm n L a)] (fun y r => (∃ l : List Pri, l.length ≤ 5 ∧ y = .d (pris l)) ∧ Moved n L a 100 r) := by
 refine spec_of hT (C := []) Tryz.func20 rfl Tryz.call20 rfl rfl rfl ?_
 conv => whnf
 repeat' (first | (refine br_intro ?_ ?_ <;> intro hb <;> (try simp only [brs] at hb) <;> conv => whnf) | (refine RegX.rule (id := 5) hT rfl [] oVPiE20_5 (by decide +kernel) ?_; conv => whnf) | omega | (refine And.intro ?_ ?_; ((try dsimp only); first | omega | (refine szA rfl ?_; omega) | (refine szB rfl ?_; omega) | (unfold inI64; omega) | exact rfl | (simp only [lns] at *; omega) | decide | (unfold inI64; decide)); conv => whnf) | decide | assumption)
 refine LoopX.rule hT (C := []) (ι := Int × Nat × List Pri) (fun (b, i, l) => (a ≤ b ∧ b ≤ a + i ∧ i ≤ N.length) ∧ l.length ≤ i)
  (fun (b, i, l) => mkSt [(0, .ptr 1000000 0), (5, .buf 5), (9, .d (neds N)), (10, .d (.int .i64 N.length)), (11, .d (.int .i64 i))] [(1000000, strm n L b), (5, puB l)]) (fun (_, i, _) => N.length - i) (a, 0, []) ⟨⟨by omega, by show a ≤ a + ((0 : Nat) : Int); omega, by omega⟩, by simp⟩ ?_ ?_
 · exact (Entails.nil 5 5 95 2 (rowF puF pr00 []) rfl rfl (by decide)).trans (by (refine Entails.mk' [(1000000, 1000000), (5, 5)] rfl rfl ?_ ?_ <;> repeat' (first | exact True.intro | exact lr | exact rr | exact SV.le_int (by omega) | exact SV.le_any _ | refine And.intro ?_ ?_)); done)
 rintro ⟨b, i, l⟩ ⟨⟨p1, p2, p3⟩, p4⟩
 have p1 : a ≤ b := p1
 have p2 : b ≤ a + i := p2
 have p3 : i ≤ N.length := p3
 have p4 : l.length ≤ i := p4
 rcases Nat.lt_or_ge i N.length with hin | hin
 · conv => whnf
   repeat' (first | (refine CallX.of (s33 n L hL _ ?_ ?_ [0, 0, 1, 2, 3, 5, 8, -2, 10000000] ?_ ?_) [(1000000, 1000000)] rfl ⟨lr, SV.le_lit rfl rfl, trivial⟩ ⟨rr, trivial⟩ rfl rfl ?_; rotate_right; rintro x rout ⟨⟨u, hu, rfl⟩, ⟨c, c1, c2, rfl⟩⟩; refine ⟨rfl, ?_⟩; conv => whnf) | (refine br_intro ?_ ?_ <;> intro hb <;> (try simp only [brs] at hb) <;> conv => whnf) | (refine RegX.rule (id := 5) hT rfl [] oVPiE20_5 (by decide +kernel) ?_; conv => whnf) | omega | (refine And.intro ?_ ?_; ((try dsimp only); first | omega | (refine szA rfl ?_; omega) | (refine szB rfl ?_; omega) | (unfold inI64; omega) | exact rfl | (simp only [lns] at *; omega) | decide | (unfold inI64; decide)); conv => whnf) | decide | assumption)
   all_goals try (exfalso; omega)
   refine ⟨(_, i + 1, l ++ [⟨(N.getD (i : Int).toNat nd0).st, u⟩]), ⟨⟨by omega, ?_, by omega⟩, by show (l ++ [_]).length ≤ i + 1; rw [List.length_append]; show l.length + 1 ≤ i + 1; omega⟩, (show N.length - (i + 1) < N.length - i by omega), Entails.mk' [(1000000, 1000000), (5, 23)] rfl rfl ⟨lr, lr, lr, lr, lr, trivial⟩ ⟨rr, Res.le_snocF rfl, trivial⟩⟩
   show _ ≤ a + ((i + 1 : Nat) : Int)
   omega
 have hl5 : l.length ≤ 5 := by omega
 conv => whnf
 repeat' (first | (refine CallX.of (s84 n L hL _ ?_ ?_ _ ?_) [(1000000, 1000000)] rfl ⟨lr, lr, trivial⟩ ⟨rr, trivial⟩ rfl rfl ?_; rotate_right; rintro x rout ⟨⟨f, rfl⟩, ⟨c, c1, c2, rfl⟩⟩; refine ⟨rfl, ?_⟩; conv => whnf) | (refine CallX.of (s86 n L hL _ ?_ ?_ _ ?_) [(1000000, 1000000)] rfl ⟨lr, lr, trivial⟩ ⟨rr, trivial⟩ rfl rfl ?_; rotate_right; rintro x rout ⟨⟨j, hj1, hj2, hj3, rfl⟩, ⟨c, c1, c2, rfl⟩⟩; refine ⟨rfl, ?_⟩; conv => whnf) | (refine CallX.of (s15 n L hL _ ?_ ?_ [(l.getD j.toNat pr00).st, [122]] (by simp) (by simp)) [(1000000, 1000000)] rfl ⟨lr, SV.le_lit rfl rfl, trivial⟩ ⟨rr, trivial⟩ rfl rfl ?_; rotate_right; rintro x rout ⟨⟨u1, hu1, rfl⟩, ⟨c, c1, c2, rfl⟩⟩; refine ⟨rfl, ?_⟩; conv => whnf) | (refine CallX.of (s104 n L hL _ ?_ ?_ (-10000000) 10000000 ?_ ?_ ?_) [(1000000, 1000000)] rfl ⟨lr, lr, lr, trivial⟩ ⟨rr, trivial⟩ rfl rfl ?_; rotate_right; rintro x rout ⟨⟨u3, hk1, hk2, rfl⟩, ⟨c, c1, c2, rfl⟩⟩; refine ⟨rfl, ?_⟩; conv => whnf) | (refine br_intro ?_ ?_ <;> intro hb <;> (try simp only [brs] at hb) <;> conv => whnf) | (refine RegX.rule (id := 5) hT rfl [] oVPiE20_5 (by decide +kernel) ?_; conv => whnf) | omega | (refine And.intro ?_ ?_; ((try dsimp only); first | omega | (refine szA rfl ?_; omega) | (refine szB rfl ?_; omega) | (unfold inI64; omega) | exact rfl | (simp only [lns] at *; omega) | decide | (unfold inI64; decide)); conv => whnf) | decide | assumption)
 all_goals try (exfalso; omega)
 all_goals first
  | (refine .freeze _ 5 95 2 _ _ rfl (.weak _ ?_)
     (conv => whnf)
     exact ⟨_, [(1000000, strm n L _)], lr, ⟨⟨l, hl5, rfl⟩, _, by omega, by omega, rfl⟩, rr, trivial⟩)
  | (refine .freeze _ 5 95 2 _ _ rfl (.weak _ ?_)
     (conv => whnf)
     refine ⟨_, [(1000000, strm n L _)], SV.le_upd2 (f := puF) (d := pr00) (fun y : Pri => { y with st := u1 }) (fun y => { y with cents := u3 }) (fun _ => rfl) (fun _ => rfl), ⟨⟨_, ?_, rfl⟩, _, by omega, by omega, rfl⟩, rr, trivial⟩
     simp only [List.length_set]; exact hl5)
theorem firstE_s (a : Int) : firstE [a] = a := by
 show (if a = 0 then 0 else a) = a
 split
 · rename_i q; exact q.symm
 · rfl
theorem firstE_z {l : List Int} : firstE (0 :: l) = firstE l := if_pos rfl
theorem firstE_n {a : Int} {l : List Int} (h : a ≠ 0) : firstE (a :: l) = a := if_neg h
theorem firstE_w (a : Int) : firstE [a, 0] = a := by
 by_cases h : a = 0
 · subst h; rfl
 · exact firstE_n h
theorem firstE_ap (a b c : Int) : firstE [a, b, c] = firstE [firstE [a, b], c] := by
 by_cases h : a = 0
 · subst h
   by_cases h2 : b = 0
   · subst h2; rfl
   · rw [firstE_z, firstE_n h2, firstE_z, firstE_n h2, firstE_n h2]
 · rw [firstE_n h, firstE_n h, firstE_n h]
theorem s17e (l : List Int) (e : Int) (hl : l.length ≤ 10) (h : firstE l = e) : FSpec Tryz.prog 14 [.d (ints l)] [] (fun x r => x = .d (.int .i64 e) ∧ r = []) := by
 have := s17 l (by omega)
 rw [h] at this; exact this
theorem priceR_len {n : List Ned} {r : List Roa} {l : List Pri} {e : Int} (h : PriceR n r l e) : l.length ≤ n.length := by
 rcases h with ⟨_, _, h⟩ | ⟨_, ⟨_, _, h⟩ | ⟨⟨_, _, y, _, _, _, _, h⟩, _⟩⟩
 · rw [h]; exact Nat.zero_le _
 · rw [h]; exact Nat.zero_le _
 · rw [h, priL_len]; exact Nat.le_refl _
set_option maxHeartbeats 16000000 in
theorem z4 (n : Nat) (L : Nat → Int) (hn : n ≤ maxLen) (hl : ∀ i, -2^63 ≤ L i ∧ L i < 2^63) : FSpec Tryz.prog 4 [.d (.ro 1 n fun i => [.int .i64 (L i)])] [] (fun x r => x = .d (.bool true) ∧ r = []) := by
 have hL : Rok n L := ⟨hn, hl⟩
 refine spec_of hT (C := []) Tryz.func4 rfl Tryz.call4 rfl rfl rfl ?_
 conv => whnf
 repeat' (first | (refine CallX.of (sNds n L hL _ ?_ ?_ ) [(1000000, 18)] rfl ⟨lr, trivial⟩ ⟨rr, trivial⟩ rfl rfl ?_; rotate_right; rintro x rout ⟨⟨N, hN, rfl⟩, ⟨c, c1, c2, rfl⟩⟩; refine ⟨rfl, ?_⟩; conv => whnf) | (refine CallX.of (sRds n L hL _ ?_ ?_ ) [(1000000, 18)] rfl ⟨lr, trivial⟩ ⟨rr, trivial⟩ rfl rfl ?_; rotate_right; rintro x rout ⟨⟨R, hR, rfl⟩, ⟨c, c1, c2, rfl⟩⟩; refine ⟨rfl, ?_⟩; conv => whnf) | (refine CallX.of (sMvs n L hL _ ?_ ?_ N R hN hR) [(1000000, 18)] rfl ⟨lr, lr, lr, trivial⟩ ⟨rr, trivial⟩ rfl rfl ?_; rotate_right; rintro x rout ⟨⟨l, hl, rfl⟩, ⟨c, c1, c2, rfl⟩⟩; refine ⟨rfl, ?_⟩; conv => whnf) | (refine CallX.of (sPrs n L hL _ ?_ ?_ N hN.1) [(1000000, 18)] rfl ⟨lr, lr, trivial⟩ ⟨rr, trivial⟩ rfl rfl ?_; rotate_right; rintro x rout ⟨⟨P, hP, rfl⟩, ⟨c, c1, c2, rfl⟩⟩; refine ⟨rfl, ?_⟩; conv => whnf) | (refine CallX.of (s84 n L hL _ ?_ ?_ _ ?_) [(1000000, 18)] rfl ⟨lr, lr, trivial⟩ ⟨rr, trivial⟩ rfl rfl ?_; rotate_right; rintro x rout ⟨⟨f, rfl⟩, ⟨c, c1, c2, rfl⟩⟩; refine ⟨rfl, ?_⟩; conv => whnf) | (refine br_intro ?_ ?_ <;> intro hb <;> (try simp only [brs] at hb) <;> conv => whnf) | omega | (refine And.intro ?_ ?_; ((try dsimp only); first | omega | (refine szA rfl ?_; omega) | (refine szB rfl ?_; omega) | (unfold inI64; omega) | exact rfl | (simp only [lns] at *; omega) | decide | (unfold inI64; decide)); conv => whnf) | decide | assumption)
 all_goals
  have hnd := ndOk_of hN
  have hrd := rdOk_of hR
  have hmv := mvOk_of hl
 · repeat' (first | (refine CallX.of (p22 N R hnd hrd) [] rfl ⟨lr, lr, trivial⟩ trivial rfl rfl ?_; rintro x rout ⟨⟨Q, e, rfl, hQ⟩, rfl⟩; refine ⟨rfl, ?_⟩; conv => whnf) | (refine br_intro ?_ ?_ <;> intro hb <;> (try simp only [brs] at hb) <;> conv => whnf) | omega | (refine And.intro ?_ ?_; ((try dsimp only); first | omega | (refine szA rfl ?_; omega) | (refine szB rfl ?_; omega) | (unfold inI64; omega) | exact rfl | (simp only [lns] at *; omega) | decide | (unfold inI64; decide)); conv => whnf) | decide | assumption)
   · have hP5 : Q.length ≤ 2^40 := by have := priceR_len hQ; have := hN.1; omega
     obtain ⟨P, hPQ⟩ : ∃ P, P = Q := ⟨_, rfl⟩
     subst hPQ
     have h23 := p23 N R P hnd hrd hP5
     have h24 := p24 N R l P hnd hrd hmv hP5
     have h25p := p25 N P hnd.1 hP5
     have h20 := z20 N hnd
     have h21 := z21 R hrd
     have h25 := z25 l hmv
     obtain ⟨pp, hpp⟩ : ∃ e, priE N P = e := ⟨_, rfl⟩
     obtain ⟨e3, he3⟩ : ∃ e, mvsE l = e := ⟨_, rfl⟩
     rw [hpp] at h25p
     rw [he3] at h25
     have hbE : bndE N R P = firstE [firstE [ndsE N, rdsE R], pp] := by unfold bndE; rw [hpp]
     have hpE : prvE N R l P = firstE [plnE N R l, pp] := by unfold prvE; rw [hpp]
     rw [hbE] at h23
     rw [hpE] at h24
     obtain ⟨E0, hE0⟩ : ∃ e, firstE [ndsE N, rdsE R] = e := ⟨_, rfl⟩
     by_cases h0 : E0 = 0
     · subst h0
       obtain ⟨k1, k2⟩ := firstE_two hE0
       rw [k1] at h20; rw [k2] at h21; rw [hE0, firstE_z, firstE_s] at h23
       by_cases h3 : e3 = 0
       · subst h3
         have hE3 : firstE [ndsE N, rdsE R, mvsE l] = 0 := by rw [k1, k2, he3]; rfl
         have h16 := p16 N R l k1 k2 he3
         have hC := p17 R l k2 (mvsE_ok he3)
         rw [plnE_eq hE3] at h24
         obtain ⟨w, hw⟩ : ∃ e, planE N R l = e := ⟨_, rfl⟩
         obtain ⟨co, hco⟩ : ∃ e, costN R l l.length = e := ⟨_, rfl⟩
         rw [hw] at h16 h24
         rw [hco] at h24 hC
         have g1 := s17e [0, 0] 0 (by simp) rfl
         have g2 := s17e [0, pp] pp (by simp) (firstE_z.trans (firstE_s pp))
         by_cases hp : pp = 0
         · subst hp
           have h26 := p26 N R P k1 k2 hpp
           have g3 := s17e [w, 0] w (by simp) (firstE_w w)
           rw [firstE_w] at h24; rw [if_pos rfl] at h23
           obtain ⟨bo, hbo⟩ : ∃ e, bouN N R P = e := ⟨_, rfl⟩
           rw [hbo] at h26 h23 h24
           by_cases hw0 : w = 0
           · subst hw0
             by_cases hcb : co = bo
             · rw [decide_eq_true ⟨rfl, hcb⟩] at h24
               repeat' (first | (refine CallX.exact (h23) rfl rfl ?_; rotate_right; conv => whnf) | (refine CallX.exact (h24) rfl rfl ?_; rotate_right; conv => whnf) | (refine CallX.exact (h20) rfl rfl ?_; rotate_right; conv => whnf) | (refine CallX.exact (h21) rfl rfl ?_; rotate_right; conv => whnf) | (refine CallX.exact (h25) rfl rfl ?_; rotate_right; conv => whnf) | (refine CallX.exact (h25p) rfl rfl ?_; rotate_right; conv => whnf) | (refine CallX.exact (h16) rfl rfl ?_; rotate_right; conv => whnf) | (refine CallX.exact (hC) rfl rfl ?_; rotate_right; conv => whnf) | (refine CallX.exact (h26) rfl rfl ?_; rotate_right; conv => whnf) | (refine CallX.pure g1 ⟨SV.le_lit (by rfl) (by rfl), trivial⟩ rfl ?_; conv => whnf) | (refine CallX.pure g2 ⟨SV.le_lit (by rfl) (by rfl), trivial⟩ rfl ?_; conv => whnf) | (refine CallX.pure g3 ⟨SV.le_lit (by rfl) (by rfl), trivial⟩ rfl ?_; conv => whnf) | (refine CallX.exact (p19) rfl rfl ?_; rotate_right; conv => whnf) | (refine br_intro ?_ ?_ <;> intro hb <;> (try simp only [brs] at hb) <;> conv => whnf) | omega | (refine And.intro ?_ ?_; ((try dsimp only); first | omega | (refine szA rfl ?_; omega) | (refine szB rfl ?_; omega) | (unfold inI64; omega) | exact rfl | (simp only [lns] at *; omega) | decide | (unfold inI64; decide)); conv => whnf) | decide | assumption)
               all_goals try (exfalso; omega)
               all_goals try (exfalso; simp [hcb] at hb; done)
               refine .ret _ ?_
               conv => whnf
               refine ⟨[], ⟨?_, rfl⟩, trivial⟩
               conv => lhs; whnf
             · rw [decide_eq_false (fun q => hcb q.2)] at h24
               repeat' (first | (refine CallX.exact (h23) rfl rfl ?_; rotate_right; conv => whnf) | (refine CallX.exact (h24) rfl rfl ?_; rotate_right; conv => whnf) | (refine CallX.exact (h20) rfl rfl ?_; rotate_right; conv => whnf) | (refine CallX.exact (h21) rfl rfl ?_; rotate_right; conv => whnf) | (refine CallX.exact (h25) rfl rfl ?_; rotate_right; conv => whnf) | (refine CallX.exact (h25p) rfl rfl ?_; rotate_right; conv => whnf) | (refine CallX.exact (h16) rfl rfl ?_; rotate_right; conv => whnf) | (refine CallX.exact (hC) rfl rfl ?_; rotate_right; conv => whnf) | (refine CallX.exact (h26) rfl rfl ?_; rotate_right; conv => whnf) | (refine CallX.pure g1 ⟨SV.le_lit (by rfl) (by rfl), trivial⟩ rfl ?_; conv => whnf) | (refine CallX.pure g2 ⟨SV.le_lit (by rfl) (by rfl), trivial⟩ rfl ?_; conv => whnf) | (refine CallX.pure g3 ⟨SV.le_lit (by rfl) (by rfl), trivial⟩ rfl ?_; conv => whnf) | (refine CallX.exact (p19) rfl rfl ?_; rotate_right; conv => whnf) | (refine br_intro ?_ ?_ <;> intro hb <;> (try simp only [brs] at hb) <;> conv => whnf) | omega | (refine And.intro ?_ ?_; ((try dsimp only); first | omega | (refine szA rfl ?_; omega) | (refine szB rfl ?_; omega) | (unfold inI64; omega) | exact rfl | (simp only [lns] at *; omega) | decide | (unfold inI64; decide)); conv => whnf) | decide | assumption)
               all_goals try (exfalso; omega)
               all_goals try (exfalso; simp [hcb] at hb; done)
               refine .ret _ ?_
               conv => whnf
               refine ⟨[], ⟨?_, rfl⟩, trivial⟩
               conv => lhs; whnf
           · rw [decide_eq_false (fun q => hw0 q.1)] at h24
             repeat' (first | (refine CallX.exact (h23) rfl rfl ?_; rotate_right; conv => whnf) | (refine CallX.exact (h24) rfl rfl ?_; rotate_right; conv => whnf) | (refine CallX.exact (h20) rfl rfl ?_; rotate_right; conv => whnf) | (refine CallX.exact (h21) rfl rfl ?_; rotate_right; conv => whnf) | (refine CallX.exact (h25) rfl rfl ?_; rotate_right; conv => whnf) | (refine CallX.exact (h25p) rfl rfl ?_; rotate_right; conv => whnf) | (refine CallX.exact (h16) rfl rfl ?_; rotate_right; conv => whnf) | (refine CallX.exact (hC) rfl rfl ?_; rotate_right; conv => whnf) | (refine CallX.exact (h26) rfl rfl ?_; rotate_right; conv => whnf) | (refine CallX.pure g1 ⟨SV.le_lit (by rfl) (by rfl), trivial⟩ rfl ?_; conv => whnf) | (refine CallX.pure g2 ⟨SV.le_lit (by rfl) (by rfl), trivial⟩ rfl ?_; conv => whnf) | (refine CallX.pure g3 ⟨SV.le_lit (by rfl) (by rfl), trivial⟩ rfl ?_; conv => whnf) | (refine CallX.exact (p19) rfl rfl ?_; rotate_right; conv => whnf) | (refine br_intro ?_ ?_ <;> intro hb <;> (try simp only [brs] at hb) <;> conv => whnf) | omega | (refine And.intro ?_ ?_; ((try dsimp only); first | omega | (refine szA rfl ?_; omega) | (refine szB rfl ?_; omega) | (unfold inI64; omega) | exact rfl | (simp only [lns] at *; omega) | decide | (unfold inI64; decide)); conv => whnf) | decide | assumption)
             all_goals try (exfalso; omega)
             refine .ret _ ?_
             conv => whnf
             refine ⟨[], ⟨?_, rfl⟩, trivial⟩
             conv => lhs; whnf
         · obtain ⟨t, ht⟩ : ∃ e, firstE [w, pp] = e := ⟨_, rfl⟩
           have ht0 : t ≠ 0 := fun q => hp (firstE_two (ht.trans q)).2
           have g3 := s17e [w, pp] t (by simp) ht
           rw [ht, decide_eq_false (fun q => ht0 q.1)] at h24; rw [if_neg hp] at h23
           repeat' (first | (refine CallX.exact (h23) rfl rfl ?_; rotate_right; conv => whnf) | (refine CallX.exact (h24) rfl rfl ?_; rotate_right; conv => whnf) | (refine CallX.exact (h20) rfl rfl ?_; rotate_right; conv => whnf) | (refine CallX.exact (h21) rfl rfl ?_; rotate_right; conv => whnf) | (refine CallX.exact (h25) rfl rfl ?_; rotate_right; conv => whnf) | (refine CallX.exact (h25p) rfl rfl ?_; rotate_right; conv => whnf) | (refine CallX.exact (h16) rfl rfl ?_; rotate_right; conv => whnf) | (refine CallX.pure g1 ⟨SV.le_lit (by rfl) (by rfl), trivial⟩ rfl ?_; conv => whnf) | (refine CallX.pure g2 ⟨SV.le_lit (by rfl) (by rfl), trivial⟩ rfl ?_; conv => whnf) | (refine CallX.pure g3 ⟨SV.le_lit (by rfl) (by rfl), trivial⟩ rfl ?_; conv => whnf) | (refine CallX.exact (p19) rfl rfl ?_; rotate_right; conv => whnf) | (refine br_intro ?_ ?_ <;> intro hb <;> (try simp only [brs] at hb) <;> conv => whnf) | omega | (refine And.intro ?_ ?_; ((try dsimp only); first | omega | (refine szA rfl ?_; omega) | (refine szB rfl ?_; omega) | (unfold inI64; omega) | exact rfl | (simp only [lns] at *; omega) | decide | (unfold inI64; decide)); conv => whnf) | decide | assumption)
           all_goals try (exfalso; omega)
           refine .ret _ ?_
           conv => whnf
           refine ⟨[], ⟨?_, rfl⟩, trivial⟩
           conv => lhs; whnf
       · have hE3 : firstE [ndsE N, rdsE R, mvsE l] = e3 := by rw [k1, k2, he3]; exact firstE_z.trans (firstE_z.trans (firstE_s _))
         rw [plnE_ne hE3 h3, firstE_n h3, decide_eq_false (fun q => h3 q.1)] at h24
         have g1 := s17e [0, 0] 0 (by simp) rfl
         have g2 := s17e [0, pp] pp (by simp) (firstE_z.trans (firstE_s pp))
         have g4 := s17e [0, e3] e3 (by simp) (firstE_z.trans (firstE_s e3))
         have g3 := s17e [e3, pp] e3 (by simp) (firstE_n h3)
         by_cases hp : pp = 0
         · subst hp
           have h26 := p26 N R P k1 k2 hpp
           rw [if_pos rfl] at h23
           obtain ⟨bo, hbo⟩ : ∃ e, bouN N R P = e := ⟨_, rfl⟩
           rw [hbo] at h26 h23
           repeat' (first | (refine CallX.exact (h23) rfl rfl ?_; rotate_right; conv => whnf) | (refine CallX.exact (h24) rfl rfl ?_; rotate_right; conv => whnf) | (refine CallX.exact (h20) rfl rfl ?_; rotate_right; conv => whnf) | (refine CallX.exact (h21) rfl rfl ?_; rotate_right; conv => whnf) | (refine CallX.exact (h25) rfl rfl ?_; rotate_right; conv => whnf) | (refine CallX.exact (h25p) rfl rfl ?_; rotate_right; conv => whnf) | (refine CallX.exact (h26) rfl rfl ?_; rotate_right; conv => whnf) | (refine CallX.pure g1 ⟨SV.le_lit (by rfl) (by rfl), trivial⟩ rfl ?_; conv => whnf) | (refine CallX.pure g2 ⟨SV.le_lit (by rfl) (by rfl), trivial⟩ rfl ?_; conv => whnf) | (refine CallX.pure g4 ⟨SV.le_lit (by rfl) (by rfl), trivial⟩ rfl ?_; conv => whnf) | (refine CallX.pure g3 ⟨SV.le_lit (by rfl) (by rfl), trivial⟩ rfl ?_; conv => whnf) | (refine CallX.exact (p19) rfl rfl ?_; rotate_right; conv => whnf) | (refine br_intro ?_ ?_ <;> intro hb <;> (try simp only [brs] at hb) <;> conv => whnf) | omega | (refine And.intro ?_ ?_; ((try dsimp only); first | omega | (refine szA rfl ?_; omega) | (refine szB rfl ?_; omega) | (unfold inI64; omega) | exact rfl | (simp only [lns] at *; omega) | decide | (unfold inI64; decide)); conv => whnf) | decide | assumption)
           all_goals try (exfalso; omega)
           refine .ret _ ?_
           conv => whnf
           refine ⟨[], ⟨?_, rfl⟩, trivial⟩
           conv => lhs; whnf
         · rw [if_neg hp] at h23
           repeat' (first | (refine CallX.exact (h23) rfl rfl ?_; rotate_right; conv => whnf) | (refine CallX.exact (h24) rfl rfl ?_; rotate_right; conv => whnf) | (refine CallX.exact (h20) rfl rfl ?_; rotate_right; conv => whnf) | (refine CallX.exact (h21) rfl rfl ?_; rotate_right; conv => whnf) | (refine CallX.exact (h25) rfl rfl ?_; rotate_right; conv => whnf) | (refine CallX.exact (h25p) rfl rfl ?_; rotate_right; conv => whnf) | (refine CallX.pure g1 ⟨SV.le_lit (by rfl) (by rfl), trivial⟩ rfl ?_; conv => whnf) | (refine CallX.pure g2 ⟨SV.le_lit (by rfl) (by rfl), trivial⟩ rfl ?_; conv => whnf) | (refine CallX.pure g4 ⟨SV.le_lit (by rfl) (by rfl), trivial⟩ rfl ?_; conv => whnf) | (refine CallX.pure g3 ⟨SV.le_lit (by rfl) (by rfl), trivial⟩ rfl ?_; conv => whnf) | (refine CallX.exact (p19) rfl rfl ?_; rotate_right; conv => whnf) | (refine br_intro ?_ ?_ <;> intro hb <;> (try simp only [brs] at hb) <;> conv => whnf) | omega | (refine And.intro ?_ ?_; ((try dsimp only); first | omega | (refine szA rfl ?_; omega) | (refine szB rfl ?_; omega) | (unfold inI64; omega) | exact rfl | (simp only [lns] at *; omega) | decide | (unfold inI64; decide)); conv => whnf) | decide | assumption)
           all_goals try (exfalso; omega)
           refine .ret _ ?_
           conv => whnf
           refine ⟨[], ⟨?_, rfl⟩, trivial⟩
           conv => lhs; whnf
     · have hE3 : firstE [ndsE N, rdsE R, mvsE l] = E0 := (firstE_ap _ _ _).trans (by rw [hE0]; exact firstE_n h0)
       rw [plnE_ne hE3 h0, firstE_n h0, decide_eq_false (fun q => h0 q.1)] at h24
       rw [hE0, firstE_n h0, if_neg h0] at h23
       have g1 := s17e [ndsE N, rdsE R] E0 (by simp) hE0
       have g2 := s17e [E0, e3] E0 (by simp) (firstE_n h0)
       have g3 := s17e [E0, pp] E0 (by simp) (firstE_n h0)
       repeat' (first | (refine CallX.exact (h23) rfl rfl ?_; rotate_right; conv => whnf) | (refine CallX.exact (h24) rfl rfl ?_; rotate_right; conv => whnf) | (refine CallX.exact (h20) rfl rfl ?_; rotate_right; conv => whnf) | (refine CallX.exact (h21) rfl rfl ?_; rotate_right; conv => whnf) | (refine CallX.exact (h25) rfl rfl ?_; rotate_right; conv => whnf) | (refine CallX.exact (h25p) rfl rfl ?_; rotate_right; conv => whnf) | (refine CallX.pure g1 ⟨SV.le_lit (by rfl) (by rfl), trivial⟩ rfl ?_; conv => whnf) | (refine CallX.pure g2 ⟨SV.le_lit (by rfl) (by rfl), trivial⟩ rfl ?_; conv => whnf) | (refine CallX.pure g3 ⟨SV.le_lit (by rfl) (by rfl), trivial⟩ rfl ?_; conv => whnf) | (refine CallX.exact (p19) rfl rfl ?_; rotate_right; conv => whnf) | (refine br_intro ?_ ?_ <;> intro hb <;> (try simp only [brs] at hb) <;> conv => whnf) | omega | (refine And.intro ?_ ?_; ((try dsimp only); first | omega | (refine szA rfl ?_; omega) | (refine szB rfl ?_; omega) | (unfold inI64; omega) | exact rfl | (simp only [lns] at *; omega) | decide | (unfold inI64; decide)); conv => whnf) | decide | assumption)
       all_goals try (exfalso; omega)
       refine .ret _ ?_
       conv => whnf
       refine ⟨[], ⟨?_, rfl⟩, trivial⟩
       conv => lhs; whnf
   · have hP5 : P.length ≤ 2^40 := by omega
     have h23 := p23 N R P hnd hrd hP5
     have h24 := p24 N R l P hnd hrd hmv hP5
     have h25p := p25 N P hnd.1 hP5
     have h20 := z20 N hnd
     have h21 := z21 R hrd
     have h25 := z25 l hmv
     obtain ⟨pp, hpp⟩ : ∃ e, priE N P = e := ⟨_, rfl⟩
     obtain ⟨e3, he3⟩ : ∃ e, mvsE l = e := ⟨_, rfl⟩
     rw [hpp] at h25p
     rw [he3] at h25
     have hbE : bndE N R P = firstE [firstE [ndsE N, rdsE R], pp] := by unfold bndE; rw [hpp]
     have hpE : prvE N R l P = firstE [plnE N R l, pp] := by unfold prvE; rw [hpp]
     rw [hbE] at h23
     rw [hpE] at h24
     obtain ⟨E0, hE0⟩ : ∃ e, firstE [ndsE N, rdsE R] = e := ⟨_, rfl⟩
     by_cases h0 : E0 = 0
     · subst h0
       obtain ⟨k1, k2⟩ := firstE_two hE0
       rw [k1] at h20; rw [k2] at h21; rw [hE0, firstE_z, firstE_s] at h23
       by_cases h3 : e3 = 0
       · subst h3
         have hE3 : firstE [ndsE N, rdsE R, mvsE l] = 0 := by rw [k1, k2, he3]; rfl
         have h16 := p16 N R l k1 k2 he3
         have hC := p17 R l k2 (mvsE_ok he3)
         rw [plnE_eq hE3] at h24
         obtain ⟨w, hw⟩ : ∃ e, planE N R l = e := ⟨_, rfl⟩
         obtain ⟨co, hco⟩ : ∃ e, costN R l l.length = e := ⟨_, rfl⟩
         rw [hw] at h16 h24
         rw [hco] at h24 hC
         have g1 := s17e [0, 0] 0 (by simp) rfl
         have g2 := s17e [0, pp] pp (by simp) (firstE_z.trans (firstE_s pp))
         by_cases hp : pp = 0
         · subst hp
           have h26 := p26 N R P k1 k2 hpp
           have g3 := s17e [w, 0] w (by simp) (firstE_w w)
           rw [firstE_w] at h24; rw [if_pos rfl] at h23
           obtain ⟨bo, hbo⟩ : ∃ e, bouN N R P = e := ⟨_, rfl⟩
           rw [hbo] at h26 h23 h24
           by_cases hw0 : w = 0
           · subst hw0
             by_cases hcb : co = bo
             · rw [decide_eq_true ⟨rfl, hcb⟩] at h24
               repeat' (first | (refine CallX.exact (h23) rfl rfl ?_; rotate_right; conv => whnf) | (refine CallX.exact (h24) rfl rfl ?_; rotate_right; conv => whnf) | (refine CallX.exact (h20) rfl rfl ?_; rotate_right; conv => whnf) | (refine CallX.exact (h21) rfl rfl ?_; rotate_right; conv => whnf) | (refine CallX.exact (h25) rfl rfl ?_; rotate_right; conv => whnf) | (refine CallX.exact (h25p) rfl rfl ?_; rotate_right; conv => whnf) | (refine CallX.exact (h16) rfl rfl ?_; rotate_right; conv => whnf) | (refine CallX.exact (hC) rfl rfl ?_; rotate_right; conv => whnf) | (refine CallX.exact (h26) rfl rfl ?_; rotate_right; conv => whnf) | (refine CallX.pure g1 ⟨SV.le_lit (by rfl) (by rfl), trivial⟩ rfl ?_; conv => whnf) | (refine CallX.pure g2 ⟨SV.le_lit (by rfl) (by rfl), trivial⟩ rfl ?_; conv => whnf) | (refine CallX.pure g3 ⟨SV.le_lit (by rfl) (by rfl), trivial⟩ rfl ?_; conv => whnf) | (refine CallX.exact (p19) rfl rfl ?_; rotate_right; conv => whnf) | (refine br_intro ?_ ?_ <;> intro hb <;> (try simp only [brs] at hb) <;> conv => whnf) | omega | (refine And.intro ?_ ?_; ((try dsimp only); first | omega | (refine szA rfl ?_; omega) | (refine szB rfl ?_; omega) | (unfold inI64; omega) | exact rfl | (simp only [lns] at *; omega) | decide | (unfold inI64; decide)); conv => whnf) | decide | assumption)
               all_goals try (exfalso; omega)
               all_goals try (exfalso; simp [hcb] at hb; done)
               refine .ret _ ?_
               conv => whnf
               refine ⟨[], ⟨?_, rfl⟩, trivial⟩
               conv => lhs; whnf
             · rw [decide_eq_false (fun q => hcb q.2)] at h24
               repeat' (first | (refine CallX.exact (h23) rfl rfl ?_; rotate_right; conv => whnf) | (refine CallX.exact (h24) rfl rfl ?_; rotate_right; conv => whnf) | (refine CallX.exact (h20) rfl rfl ?_; rotate_right; conv => whnf) | (refine CallX.exact (h21) rfl rfl ?_; rotate_right; conv => whnf) | (refine CallX.exact (h25) rfl rfl ?_; rotate_right; conv => whnf) | (refine CallX.exact (h25p) rfl rfl ?_; rotate_right; conv => whnf) | (refine CallX.exact (h16) rfl rfl ?_; rotate_right; conv => whnf) | (refine CallX.exact (hC) rfl rfl ?_; rotate_right; conv => whnf) | (refine CallX.exact (h26) rfl rfl ?_; rotate_right; conv => whnf) | (refine CallX.pure g1 ⟨SV.le_lit (by rfl) (by rfl), trivial⟩ rfl ?_; conv => whnf) | (refine CallX.pure g2 ⟨SV.le_lit (by rfl) (by rfl), trivial⟩ rfl ?_; conv => whnf) | (refine CallX.pure g3 ⟨SV.le_lit (by rfl) (by rfl), trivial⟩ rfl ?_; conv => whnf) | (refine CallX.exact (p19) rfl rfl ?_; rotate_right; conv => whnf) | (refine br_intro ?_ ?_ <;> intro hb <;> (try simp only [brs] at hb) <;> conv => whnf) | omega | (refine And.intro ?_ ?_; ((try dsimp only); first | omega | (refine szA rfl ?_; omega) | (refine szB rfl ?_; omega) | (unfold inI64; omega) | exact rfl | (simp only [lns] at *; omega) | decide | (unfold inI64; decide)); conv => whnf) | decide | assumption)
               all_goals try (exfalso; omega)
               all_goals try (exfalso; simp [hcb] at hb; done)
               refine .ret _ ?_
               conv => whnf
               refine ⟨[], ⟨?_, rfl⟩, trivial⟩
               conv => lhs; whnf
           · rw [decide_eq_false (fun q => hw0 q.1)] at h24
             repeat' (first | (refine CallX.exact (h23) rfl rfl ?_; rotate_right; conv => whnf) | (refine CallX.exact (h24) rfl rfl ?_; rotate_right; conv => whnf) | (refine CallX.exact (h20) rfl rfl ?_; rotate_right; conv => whnf) | (refine CallX.exact (h21) rfl rfl ?_; rotate_right; conv => whnf) | (refine CallX.exact (h25) rfl rfl ?_; rotate_right; conv => whnf) | (refine CallX.exact (h25p) rfl rfl ?_; rotate_right; conv => whnf) | (refine CallX.exact (h16) rfl rfl ?_; rotate_right; conv => whnf) | (refine CallX.exact (hC) rfl rfl ?_; rotate_right; conv => whnf) | (refine CallX.exact (h26) rfl rfl ?_; rotate_right; conv => whnf) | (refine CallX.pure g1 ⟨SV.le_lit (by rfl) (by rfl), trivial⟩ rfl ?_; conv => whnf) | (refine CallX.pure g2 ⟨SV.le_lit (by rfl) (by rfl), trivial⟩ rfl ?_; conv => whnf) | (refine CallX.pure g3 ⟨SV.le_lit (by rfl) (by rfl), trivial⟩ rfl ?_; conv => whnf) | (refine CallX.exact (p19) rfl rfl ?_; rotate_right; conv => whnf) | (refine br_intro ?_ ?_ <;> intro hb <;> (try simp only [brs] at hb) <;> conv => whnf) | omega | (refine And.intro ?_ ?_; ((try dsimp only); first | omega | (refine szA rfl ?_; omega) | (refine szB rfl ?_; omega) | (unfold inI64; omega) | exact rfl | (simp only [lns] at *; omega) | decide | (unfold inI64; decide)); conv => whnf) | decide | assumption)
             all_goals try (exfalso; omega)
             refine .ret _ ?_
             conv => whnf
             refine ⟨[], ⟨?_, rfl⟩, trivial⟩
             conv => lhs; whnf
         · obtain ⟨t, ht⟩ : ∃ e, firstE [w, pp] = e := ⟨_, rfl⟩
           have ht0 : t ≠ 0 := fun q => hp (firstE_two (ht.trans q)).2
           have g3 := s17e [w, pp] t (by simp) ht
           rw [ht, decide_eq_false (fun q => ht0 q.1)] at h24; rw [if_neg hp] at h23
           repeat' (first | (refine CallX.exact (h23) rfl rfl ?_; rotate_right; conv => whnf) | (refine CallX.exact (h24) rfl rfl ?_; rotate_right; conv => whnf) | (refine CallX.exact (h20) rfl rfl ?_; rotate_right; conv => whnf) | (refine CallX.exact (h21) rfl rfl ?_; rotate_right; conv => whnf) | (refine CallX.exact (h25) rfl rfl ?_; rotate_right; conv => whnf) | (refine CallX.exact (h25p) rfl rfl ?_; rotate_right; conv => whnf) | (refine CallX.exact (h16) rfl rfl ?_; rotate_right; conv => whnf) | (refine CallX.pure g1 ⟨SV.le_lit (by rfl) (by rfl), trivial⟩ rfl ?_; conv => whnf) | (refine CallX.pure g2 ⟨SV.le_lit (by rfl) (by rfl), trivial⟩ rfl ?_; conv => whnf) | (refine CallX.pure g3 ⟨SV.le_lit (by rfl) (by rfl), trivial⟩ rfl ?_; conv => whnf) | (refine CallX.exact (p19) rfl rfl ?_; rotate_right; conv => whnf) | (refine br_intro ?_ ?_ <;> intro hb <;> (try simp only [brs] at hb) <;> conv => whnf) | omega | (refine And.intro ?_ ?_; ((try dsimp only); first | omega | (refine szA rfl ?_; omega) | (refine szB rfl ?_; omega) | (unfold inI64; omega) | exact rfl | (simp only [lns] at *; omega) | decide | (unfold inI64; decide)); conv => whnf) | decide | assumption)
           all_goals try (exfalso; omega)
           refine .ret _ ?_
           conv => whnf
           refine ⟨[], ⟨?_, rfl⟩, trivial⟩
           conv => lhs; whnf
       · have hE3 : firstE [ndsE N, rdsE R, mvsE l] = e3 := by rw [k1, k2, he3]; exact firstE_z.trans (firstE_z.trans (firstE_s _))
         rw [plnE_ne hE3 h3, firstE_n h3, decide_eq_false (fun q => h3 q.1)] at h24
         have g1 := s17e [0, 0] 0 (by simp) rfl
         have g2 := s17e [0, pp] pp (by simp) (firstE_z.trans (firstE_s pp))
         have g4 := s17e [0, e3] e3 (by simp) (firstE_z.trans (firstE_s e3))
         have g3 := s17e [e3, pp] e3 (by simp) (firstE_n h3)
         by_cases hp : pp = 0
         · subst hp
           have h26 := p26 N R P k1 k2 hpp
           rw [if_pos rfl] at h23
           obtain ⟨bo, hbo⟩ : ∃ e, bouN N R P = e := ⟨_, rfl⟩
           rw [hbo] at h26 h23
           repeat' (first | (refine CallX.exact (h23) rfl rfl ?_; rotate_right; conv => whnf) | (refine CallX.exact (h24) rfl rfl ?_; rotate_right; conv => whnf) | (refine CallX.exact (h20) rfl rfl ?_; rotate_right; conv => whnf) | (refine CallX.exact (h21) rfl rfl ?_; rotate_right; conv => whnf) | (refine CallX.exact (h25) rfl rfl ?_; rotate_right; conv => whnf) | (refine CallX.exact (h25p) rfl rfl ?_; rotate_right; conv => whnf) | (refine CallX.exact (h26) rfl rfl ?_; rotate_right; conv => whnf) | (refine CallX.pure g1 ⟨SV.le_lit (by rfl) (by rfl), trivial⟩ rfl ?_; conv => whnf) | (refine CallX.pure g2 ⟨SV.le_lit (by rfl) (by rfl), trivial⟩ rfl ?_; conv => whnf) | (refine CallX.pure g4 ⟨SV.le_lit (by rfl) (by rfl), trivial⟩ rfl ?_; conv => whnf) | (refine CallX.pure g3 ⟨SV.le_lit (by rfl) (by rfl), trivial⟩ rfl ?_; conv => whnf) | (refine CallX.exact (p19) rfl rfl ?_; rotate_right; conv => whnf) | (refine br_intro ?_ ?_ <;> intro hb <;> (try simp only [brs] at hb) <;> conv => whnf) | omega | (refine And.intro ?_ ?_; ((try dsimp only); first | omega | (refine szA rfl ?_; omega) | (refine szB rfl ?_; omega) | (unfold inI64; omega) | exact rfl | (simp only [lns] at *; omega) | decide | (unfold inI64; decide)); conv => whnf) | decide | assumption)
           all_goals try (exfalso; omega)
           refine .ret _ ?_
           conv => whnf
           refine ⟨[], ⟨?_, rfl⟩, trivial⟩
           conv => lhs; whnf
         · rw [if_neg hp] at h23
           repeat' (first | (refine CallX.exact (h23) rfl rfl ?_; rotate_right; conv => whnf) | (refine CallX.exact (h24) rfl rfl ?_; rotate_right; conv => whnf) | (refine CallX.exact (h20) rfl rfl ?_; rotate_right; conv => whnf) | (refine CallX.exact (h21) rfl rfl ?_; rotate_right; conv => whnf) | (refine CallX.exact (h25) rfl rfl ?_; rotate_right; conv => whnf) | (refine CallX.exact (h25p) rfl rfl ?_; rotate_right; conv => whnf) | (refine CallX.pure g1 ⟨SV.le_lit (by rfl) (by rfl), trivial⟩ rfl ?_; conv => whnf) | (refine CallX.pure g2 ⟨SV.le_lit (by rfl) (by rfl), trivial⟩ rfl ?_; conv => whnf) | (refine CallX.pure g4 ⟨SV.le_lit (by rfl) (by rfl), trivial⟩ rfl ?_; conv => whnf) | (refine CallX.pure g3 ⟨SV.le_lit (by rfl) (by rfl), trivial⟩ rfl ?_; conv => whnf) | (refine CallX.exact (p19) rfl rfl ?_; rotate_right; conv => whnf) | (refine br_intro ?_ ?_ <;> intro hb <;> (try simp only [brs] at hb) <;> conv => whnf) | omega | (refine And.intro ?_ ?_; ((try dsimp only); first | omega | (refine szA rfl ?_; omega) | (refine szB rfl ?_; omega) | (unfold inI64; omega) | exact rfl | (simp only [lns] at *; omega) | decide | (unfold inI64; decide)); conv => whnf) | decide | assumption)
           all_goals try (exfalso; omega)
           refine .ret _ ?_
           conv => whnf
           refine ⟨[], ⟨?_, rfl⟩, trivial⟩
           conv => lhs; whnf
     · have hE3 : firstE [ndsE N, rdsE R, mvsE l] = E0 := (firstE_ap _ _ _).trans (by rw [hE0]; exact firstE_n h0)
       rw [plnE_ne hE3 h0, firstE_n h0, decide_eq_false (fun q => h0 q.1)] at h24
       rw [hE0, firstE_n h0, if_neg h0] at h23
       have g1 := s17e [ndsE N, rdsE R] E0 (by simp) hE0
       have g2 := s17e [E0, e3] E0 (by simp) (firstE_n h0)
       have g3 := s17e [E0, pp] E0 (by simp) (firstE_n h0)
       repeat' (first | (refine CallX.exact (h23) rfl rfl ?_; rotate_right; conv => whnf) | (refine CallX.exact (h24) rfl rfl ?_; rotate_right; conv => whnf) | (refine CallX.exact (h20) rfl rfl ?_; rotate_right; conv => whnf) | (refine CallX.exact (h21) rfl rfl ?_; rotate_right; conv => whnf) | (refine CallX.exact (h25) rfl rfl ?_; rotate_right; conv => whnf) | (refine CallX.exact (h25p) rfl rfl ?_; rotate_right; conv => whnf) | (refine CallX.pure g1 ⟨SV.le_lit (by rfl) (by rfl), trivial⟩ rfl ?_; conv => whnf) | (refine CallX.pure g2 ⟨SV.le_lit (by rfl) (by rfl), trivial⟩ rfl ?_; conv => whnf) | (refine CallX.pure g3 ⟨SV.le_lit (by rfl) (by rfl), trivial⟩ rfl ?_; conv => whnf) | (refine CallX.exact (p19) rfl rfl ?_; rotate_right; conv => whnf) | (refine br_intro ?_ ?_ <;> intro hb <;> (try simp only [brs] at hb) <;> conv => whnf) | omega | (refine And.intro ?_ ?_; ((try dsimp only); first | omega | (refine szA rfl ?_; omega) | (refine szB rfl ?_; omega) | (unfold inI64; omega) | exact rfl | (simp only [lns] at *; omega) | decide | (unfold inI64; decide)); conv => whnf) | decide | assumption)
       all_goals try (exfalso; omega)
       refine .ret _ ?_
       conv => whnf
       refine ⟨[], ⟨?_, rfl⟩, trivial⟩
       conv => lhs; whnf
 · have hP5 : P.length ≤ 2^40 := by omega
   have h23 := p23 N R P hnd hrd hP5
   have h24 := p24 N R l P hnd hrd hmv hP5
   have h25p := p25 N P hnd.1 hP5
   have h20 := z20 N hnd
   have h21 := z21 R hrd
   have h25 := z25 l hmv
   obtain ⟨pp, hpp⟩ : ∃ e, priE N P = e := ⟨_, rfl⟩
   obtain ⟨e3, he3⟩ : ∃ e, mvsE l = e := ⟨_, rfl⟩
   rw [hpp] at h25p
   rw [he3] at h25
   have hbE : bndE N R P = firstE [firstE [ndsE N, rdsE R], pp] := by unfold bndE; rw [hpp]
   have hpE : prvE N R l P = firstE [plnE N R l, pp] := by unfold prvE; rw [hpp]
   rw [hbE] at h23
   rw [hpE] at h24
   obtain ⟨E0, hE0⟩ : ∃ e, firstE [ndsE N, rdsE R] = e := ⟨_, rfl⟩
   by_cases h0 : E0 = 0
   · subst h0
     obtain ⟨k1, k2⟩ := firstE_two hE0
     rw [k1] at h20; rw [k2] at h21; rw [hE0, firstE_z, firstE_s] at h23
     by_cases h3 : e3 = 0
     · subst h3
       have hE3 : firstE [ndsE N, rdsE R, mvsE l] = 0 := by rw [k1, k2, he3]; rfl
       have h16 := p16 N R l k1 k2 he3
       have hC := p17 R l k2 (mvsE_ok he3)
       rw [plnE_eq hE3] at h24
       obtain ⟨w, hw⟩ : ∃ e, planE N R l = e := ⟨_, rfl⟩
       obtain ⟨co, hco⟩ : ∃ e, costN R l l.length = e := ⟨_, rfl⟩
       rw [hw] at h16 h24
       rw [hco] at h24 hC
       have g1 := s17e [0, 0] 0 (by simp) rfl
       have g2 := s17e [0, pp] pp (by simp) (firstE_z.trans (firstE_s pp))
       by_cases hp : pp = 0
       · subst hp
         have h26 := p26 N R P k1 k2 hpp
         have g3 := s17e [w, 0] w (by simp) (firstE_w w)
         rw [firstE_w] at h24; rw [if_pos rfl] at h23
         obtain ⟨bo, hbo⟩ : ∃ e, bouN N R P = e := ⟨_, rfl⟩
         rw [hbo] at h26 h23 h24
         by_cases hw0 : w = 0
         · subst hw0
           by_cases hcb : co = bo
           · rw [decide_eq_true ⟨rfl, hcb⟩] at h24
             repeat' (first | (refine CallX.exact (h23) rfl rfl ?_; rotate_right; conv => whnf) | (refine CallX.exact (h24) rfl rfl ?_; rotate_right; conv => whnf) | (refine CallX.exact (h20) rfl rfl ?_; rotate_right; conv => whnf) | (refine CallX.exact (h21) rfl rfl ?_; rotate_right; conv => whnf) | (refine CallX.exact (h25) rfl rfl ?_; rotate_right; conv => whnf) | (refine CallX.exact (h25p) rfl rfl ?_; rotate_right; conv => whnf) | (refine CallX.exact (h16) rfl rfl ?_; rotate_right; conv => whnf) | (refine CallX.exact (hC) rfl rfl ?_; rotate_right; conv => whnf) | (refine CallX.exact (h26) rfl rfl ?_; rotate_right; conv => whnf) | (refine CallX.pure g1 ⟨SV.le_lit (by rfl) (by rfl), trivial⟩ rfl ?_; conv => whnf) | (refine CallX.pure g2 ⟨SV.le_lit (by rfl) (by rfl), trivial⟩ rfl ?_; conv => whnf) | (refine CallX.pure g3 ⟨SV.le_lit (by rfl) (by rfl), trivial⟩ rfl ?_; conv => whnf) | (refine CallX.exact (p19) rfl rfl ?_; rotate_right; conv => whnf) | (refine br_intro ?_ ?_ <;> intro hb <;> (try simp only [brs] at hb) <;> conv => whnf) | omega | (refine And.intro ?_ ?_; ((try dsimp only); first | omega | (refine szA rfl ?_; omega) | (refine szB rfl ?_; omega) | (unfold inI64; omega) | exact rfl | (simp only [lns] at *; omega) | decide | (unfold inI64; decide)); conv => whnf) | decide | assumption)
             all_goals try (exfalso; omega)
             all_goals try (exfalso; simp [hcb] at hb; done)
             refine .ret _ ?_
             conv => whnf
             refine ⟨[], ⟨?_, rfl⟩, trivial⟩
             conv => lhs; whnf
           · rw [decide_eq_false (fun q => hcb q.2)] at h24
             repeat' (first | (refine CallX.exact (h23) rfl rfl ?_; rotate_right; conv => whnf) | (refine CallX.exact (h24) rfl rfl ?_; rotate_right; conv => whnf) | (refine CallX.exact (h20) rfl rfl ?_; rotate_right; conv => whnf) | (refine CallX.exact (h21) rfl rfl ?_; rotate_right; conv => whnf) | (refine CallX.exact (h25) rfl rfl ?_; rotate_right; conv => whnf) | (refine CallX.exact (h25p) rfl rfl ?_; rotate_right; conv => whnf) | (refine CallX.exact (h16) rfl rfl ?_; rotate_right; conv => whnf) | (refine CallX.exact (hC) rfl rfl ?_; rotate_right; conv => whnf) | (refine CallX.exact (h26) rfl rfl ?_; rotate_right; conv => whnf) | (refine CallX.pure g1 ⟨SV.le_lit (by rfl) (by rfl), trivial⟩ rfl ?_; conv => whnf) | (refine CallX.pure g2 ⟨SV.le_lit (by rfl) (by rfl), trivial⟩ rfl ?_; conv => whnf) | (refine CallX.pure g3 ⟨SV.le_lit (by rfl) (by rfl), trivial⟩ rfl ?_; conv => whnf) | (refine CallX.exact (p19) rfl rfl ?_; rotate_right; conv => whnf) | (refine br_intro ?_ ?_ <;> intro hb <;> (try simp only [brs] at hb) <;> conv => whnf) | omega | (refine And.intro ?_ ?_; ((try dsimp only); first | omega | (refine szA rfl ?_; omega) | (refine szB rfl ?_; omega) | (unfold inI64; omega) | exact rfl | (simp only [lns] at *; omega) | decide | (unfold inI64; decide)); conv => whnf) | decide | assumption)
             all_goals try (exfalso; omega)
             all_goals try (exfalso; simp [hcb] at hb; done)
             refine .ret _ ?_
             conv => whnf
             refine ⟨[], ⟨?_, rfl⟩, trivial⟩
             conv => lhs; whnf
         · rw [decide_eq_false (fun q => hw0 q.1)] at h24
           repeat' (first | (refine CallX.exact (h23) rfl rfl ?_; rotate_right; conv => whnf) | (refine CallX.exact (h24) rfl rfl ?_; rotate_right; conv => whnf) | (refine CallX.exact (h20) rfl rfl ?_; rotate_right; conv => whnf) | (refine CallX.exact (h21) rfl rfl ?_; rotate_right; conv => whnf) | (refine CallX.exact (h25) rfl rfl ?_; rotate_right; conv => whnf) | (refine CallX.exact (h25p) rfl rfl ?_; rotate_right; conv => whnf) | (refine CallX.exact (h16) rfl rfl ?_; rotate_right; conv => whnf) | (refine CallX.exact (hC) rfl rfl ?_; rotate_right; conv => whnf) | (refine CallX.exact (h26) rfl rfl ?_; rotate_right; conv => whnf) | (refine CallX.pure g1 ⟨SV.le_lit (by rfl) (by rfl), trivial⟩ rfl ?_; conv => whnf) | (refine CallX.pure g2 ⟨SV.le_lit (by rfl) (by rfl), trivial⟩ rfl ?_; conv => whnf) | (refine CallX.pure g3 ⟨SV.le_lit (by rfl) (by rfl), trivial⟩ rfl ?_; conv => whnf) | (refine CallX.exact (p19) rfl rfl ?_; rotate_right; conv => whnf) | (refine br_intro ?_ ?_ <;> intro hb <;> (try simp only [brs] at hb) <;> conv => whnf) | omega | (refine And.intro ?_ ?_; ((try dsimp only); first | omega | (refine szA rfl ?_; omega) | (refine szB rfl ?_; omega) | (unfold inI64; omega) | exact rfl | (simp only [lns] at *; omega) | decide | (unfold inI64; decide)); conv => whnf) | decide | assumption)
           all_goals try (exfalso; omega)
           refine .ret _ ?_
           conv => whnf
           refine ⟨[], ⟨?_, rfl⟩, trivial⟩
           conv => lhs; whnf
       · obtain ⟨t, ht⟩ : ∃ e, firstE [w, pp] = e := ⟨_, rfl⟩
         have ht0 : t ≠ 0 := fun q => hp (firstE_two (ht.trans q)).2
         have g3 := s17e [w, pp] t (by simp) ht
         rw [ht, decide_eq_false (fun q => ht0 q.1)] at h24; rw [if_neg hp] at h23
         repeat' (first | (refine CallX.exact (h23) rfl rfl ?_; rotate_right; conv => whnf) | (refine CallX.exact (h24) rfl rfl ?_; rotate_right; conv => whnf) | (refine CallX.exact (h20) rfl rfl ?_; rotate_right; conv => whnf) | (refine CallX.exact (h21) rfl rfl ?_; rotate_right; conv => whnf) | (refine CallX.exact (h25) rfl rfl ?_; rotate_right; conv => whnf) | (refine CallX.exact (h25p) rfl rfl ?_; rotate_right; conv => whnf) | (refine CallX.exact (h16) rfl rfl ?_; rotate_right; conv => whnf) | (refine CallX.pure g1 ⟨SV.le_lit (by rfl) (by rfl), trivial⟩ rfl ?_; conv => whnf) | (refine CallX.pure g2 ⟨SV.le_lit (by rfl) (by rfl), trivial⟩ rfl ?_; conv => whnf) | (refine CallX.pure g3 ⟨SV.le_lit (by rfl) (by rfl), trivial⟩ rfl ?_; conv => whnf) | (refine CallX.exact (p19) rfl rfl ?_; rotate_right; conv => whnf) | (refine br_intro ?_ ?_ <;> intro hb <;> (try simp only [brs] at hb) <;> conv => whnf) | omega | (refine And.intro ?_ ?_; ((try dsimp only); first | omega | (refine szA rfl ?_; omega) | (refine szB rfl ?_; omega) | (unfold inI64; omega) | exact rfl | (simp only [lns] at *; omega) | decide | (unfold inI64; decide)); conv => whnf) | decide | assumption)
         all_goals try (exfalso; omega)
         refine .ret _ ?_
         conv => whnf
         refine ⟨[], ⟨?_, rfl⟩, trivial⟩
         conv => lhs; whnf
     · have hE3 : firstE [ndsE N, rdsE R, mvsE l] = e3 := by rw [k1, k2, he3]; exact firstE_z.trans (firstE_z.trans (firstE_s _))
       rw [plnE_ne hE3 h3, firstE_n h3, decide_eq_false (fun q => h3 q.1)] at h24
       have g1 := s17e [0, 0] 0 (by simp) rfl
       have g2 := s17e [0, pp] pp (by simp) (firstE_z.trans (firstE_s pp))
       have g4 := s17e [0, e3] e3 (by simp) (firstE_z.trans (firstE_s e3))
       have g3 := s17e [e3, pp] e3 (by simp) (firstE_n h3)
       by_cases hp : pp = 0
       · subst hp
         have h26 := p26 N R P k1 k2 hpp
         rw [if_pos rfl] at h23
         obtain ⟨bo, hbo⟩ : ∃ e, bouN N R P = e := ⟨_, rfl⟩
         rw [hbo] at h26 h23
         repeat' (first | (refine CallX.exact (h23) rfl rfl ?_; rotate_right; conv => whnf) | (refine CallX.exact (h24) rfl rfl ?_; rotate_right; conv => whnf) | (refine CallX.exact (h20) rfl rfl ?_; rotate_right; conv => whnf) | (refine CallX.exact (h21) rfl rfl ?_; rotate_right; conv => whnf) | (refine CallX.exact (h25) rfl rfl ?_; rotate_right; conv => whnf) | (refine CallX.exact (h25p) rfl rfl ?_; rotate_right; conv => whnf) | (refine CallX.exact (h26) rfl rfl ?_; rotate_right; conv => whnf) | (refine CallX.pure g1 ⟨SV.le_lit (by rfl) (by rfl), trivial⟩ rfl ?_; conv => whnf) | (refine CallX.pure g2 ⟨SV.le_lit (by rfl) (by rfl), trivial⟩ rfl ?_; conv => whnf) | (refine CallX.pure g4 ⟨SV.le_lit (by rfl) (by rfl), trivial⟩ rfl ?_; conv => whnf) | (refine CallX.pure g3 ⟨SV.le_lit (by rfl) (by rfl), trivial⟩ rfl ?_; conv => whnf) | (refine CallX.exact (p19) rfl rfl ?_; rotate_right; conv => whnf) | (refine br_intro ?_ ?_ <;> intro hb <;> (try simp only [brs] at hb) <;> conv => whnf) | omega | (refine And.intro ?_ ?_; ((try dsimp only); first | omega | (refine szA rfl ?_; omega) | (refine szB rfl ?_; omega) | (unfold inI64; omega) | exact rfl | (simp only [lns] at *; omega) | decide | (unfold inI64; decide)); conv => whnf) | decide | assumption)
         all_goals try (exfalso; omega)
         refine .ret _ ?_
         conv => whnf
         refine ⟨[], ⟨?_, rfl⟩, trivial⟩
         conv => lhs; whnf
       · rw [if_neg hp] at h23
         repeat' (first | (refine CallX.exact (h23) rfl rfl ?_; rotate_right; conv => whnf) | (refine CallX.exact (h24) rfl rfl ?_; rotate_right; conv => whnf) | (refine CallX.exact (h20) rfl rfl ?_; rotate_right; conv => whnf) | (refine CallX.exact (h21) rfl rfl ?_; rotate_right; conv => whnf) | (refine CallX.exact (h25) rfl rfl ?_; rotate_right; conv => whnf) | (refine CallX.exact (h25p) rfl rfl ?_; rotate_right; conv => whnf) | (refine CallX.pure g1 ⟨SV.le_lit (by rfl) (by rfl), trivial⟩ rfl ?_; conv => whnf) | (refine CallX.pure g2 ⟨SV.le_lit (by rfl) (by rfl), trivial⟩ rfl ?_; conv => whnf) | (refine CallX.pure g4 ⟨SV.le_lit (by rfl) (by rfl), trivial⟩ rfl ?_; conv => whnf) | (refine CallX.pure g3 ⟨SV.le_lit (by rfl) (by rfl), trivial⟩ rfl ?_; conv => whnf) | (refine CallX.exact (p19) rfl rfl ?_; rotate_right; conv => whnf) | (refine br_intro ?_ ?_ <;> intro hb <;> (try simp only [brs] at hb) <;> conv => whnf) | omega | (refine And.intro ?_ ?_; ((try dsimp only); first | omega | (refine szA rfl ?_; omega) | (refine szB rfl ?_; omega) | (unfold inI64; omega) | exact rfl | (simp only [lns] at *; omega) | decide | (unfold inI64; decide)); conv => whnf) | decide | assumption)
         all_goals try (exfalso; omega)
         refine .ret _ ?_
         conv => whnf
         refine ⟨[], ⟨?_, rfl⟩, trivial⟩
         conv => lhs; whnf
   · have hE3 : firstE [ndsE N, rdsE R, mvsE l] = E0 := (firstE_ap _ _ _).trans (by rw [hE0]; exact firstE_n h0)
     rw [plnE_ne hE3 h0, firstE_n h0, decide_eq_false (fun q => h0 q.1)] at h24
     rw [hE0, firstE_n h0, if_neg h0] at h23
     have g1 := s17e [ndsE N, rdsE R] E0 (by simp) hE0
     have g2 := s17e [E0, e3] E0 (by simp) (firstE_n h0)
     have g3 := s17e [E0, pp] E0 (by simp) (firstE_n h0)
     repeat' (first | (refine CallX.exact (h23) rfl rfl ?_; rotate_right; conv => whnf) | (refine CallX.exact (h24) rfl rfl ?_; rotate_right; conv => whnf) | (refine CallX.exact (h20) rfl rfl ?_; rotate_right; conv => whnf) | (refine CallX.exact (h21) rfl rfl ?_; rotate_right; conv => whnf) | (refine CallX.exact (h25) rfl rfl ?_; rotate_right; conv => whnf) | (refine CallX.exact (h25p) rfl rfl ?_; rotate_right; conv => whnf) | (refine CallX.pure g1 ⟨SV.le_lit (by rfl) (by rfl), trivial⟩ rfl ?_; conv => whnf) | (refine CallX.pure g2 ⟨SV.le_lit (by rfl) (by rfl), trivial⟩ rfl ?_; conv => whnf) | (refine CallX.pure g3 ⟨SV.le_lit (by rfl) (by rfl), trivial⟩ rfl ?_; conv => whnf) | (refine CallX.exact (p19) rfl rfl ?_; rotate_right; conv => whnf) | (refine br_intro ?_ ?_ <;> intro hb <;> (try simp only [brs] at hb) <;> conv => whnf) | omega | (refine And.intro ?_ ?_; ((try dsimp only); first | omega | (refine szA rfl ?_; omega) | (refine szB rfl ?_; omega) | (unfold inI64; omega) | exact rfl | (simp only [lns] at *; omega) | decide | (unfold inI64; decide)); conv => whnf) | decide | assumption)
     all_goals try (exfalso; omega)
     refine .ret _ ?_
     conv => whnf
     refine ⟨[], ⟨?_, rfl⟩, trivial⟩
     conv => lhs; whnf
end Go.Proofs.YteehenjdddlnnaaGreatDoor
